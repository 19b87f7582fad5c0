/- Functions of the program as the interpreter takes them (printed by a program). -/
import Derived.Test.YtknhlpmmalcchaaI5Ft
set_option linter.all false
set_option linter.unusedVariables false
set_option linter.unusedSimpArgs false
namespace Go.Proofs.Ytknhlpmmalcchaa
open Go Go.VAI Go.Proofs
/- milestone/milestonelaw12.IndexSpoilt -/
def F5 : AFn := ⟨43, [.tmp 12],
 (.seq (.region [⟨some 12, (.move (.con (.bool false))), none⟩])
 (.seq (.seq (.region [⟨some 16, (.call 26 []), none⟩,
 ⟨some 17, (.un .not (.tmp 16)), none⟩])
 (.cond (.tmp 17)
 (.seq (.region [⟨some 12, (.move (.con (.bool false))), none⟩])
 .ret)
 .skip))
 (.seq (.region [⟨some 18, (.move (.tmp 0)), none⟩,
 ⟨some 19, (.move (.tmp 1)), none⟩,
 ⟨some 20, (.move (.tmp 2)), none⟩,
 ⟨some 21, (.call 28 [(.tmp 18), (.tmp 19), (.tmp 20)]), none⟩,
 ⟨some 22, (.call 27 [(.tmp 21)]), none⟩,
 ⟨some 23, (.move (.tmp 3)), none⟩,
 ⟨some 24, (.move (.tmp 4)), none⟩,
 ⟨some 25, (.move (.tmp 5)), none⟩,
 ⟨some 26, (.call 36 [(.tmp 22), (.tmp 23), (.tmp 24), (.tmp 25)]), none⟩,
 ⟨some 13, (.alloc [(.int .i64 0), .nilSlice, .nilSlice, .nilSlice, .nilSlice, .nilSlice]), none⟩,
 ⟨none, (.store 6 (.tmp 13) (.tmp 26)), none⟩])
 (.seq (.seq (.region [⟨some 27, (.loadN 6 (.tmp 13)), none⟩,
 ⟨some 28, (.call 35 [(.tmp 27)]), none⟩,
 ⟨some 29, (.un .not (.tmp 28)), none⟩])
 (.cond (.tmp 29)
 (.seq (.region [⟨some 12, (.move (.con (.bool true))), none⟩])
 .ret)
 .skip))
 (.seq (.region [⟨some 31, (.loadN 6 (.tmp 13)), none⟩,
 ⟨some 32, (.call 29 [(.tmp 31)]), none⟩,
 ⟨some 33, (.call 30 [(.tmp 32)]), none⟩,
 ⟨some 30, (.move (.tmp 33)), none⟩,
 ⟨some 34, (.extract (.tmp 30) 0), none⟩,
 ⟨some 35, (.extract (.tmp 30) 1), none⟩,
 ⟨some 14, (.alloc [(.int .i64 0), .nilSlice, .nilSlice, .nilSlice, .nilSlice, .nilSlice]), none⟩,
 ⟨none, (.store 6 (.tmp 14) (.tmp 34)), none⟩,
 ⟨some 15, (.move (.tmp 35)), none⟩])
 (.seq (.region [⟨some 36, (.move (.tmp 15)), none⟩,
 ⟨some 37, (.bin .eql .prim (.tmp 36) (.con (.int .i64 0))), none⟩,
 ⟨some 38, (.move (.tmp 37)), none⟩,
 ⟨some 39, (.loadN 6 (.tmp 14)), some (38, true)⟩,
 ⟨some 40, (.loadN 6 (.tmp 13)), some (38, true)⟩,
 ⟨some 41, (.call 32 [(.tmp 39), (.tmp 40)]), some (38, true)⟩,
 ⟨some 42, (.pick (.tmp 38) (.tmp 41) (.con (.bool false))), none⟩,
 ⟨some 12, (.move (.tmp 42)), none⟩])
 .ret))))))⟩
theorem F5_ok : cfn tab F5.body Try.f5 = some F5 := by kernel_rfl

/- milestone/milestonelaw12.known -/
def F26 : AFn := ⟨41, [.tmp 0],
 (.seq (.region [⟨some 0, (.move (.con (.bool false))), none⟩])
 (.seq (.region [⟨some 7, (.call 30 [(.con .nilSlice)]), none⟩,
 ⟨some 6, (.move (.tmp 7)), none⟩,
 ⟨some 8, (.extract (.tmp 6) 0), none⟩,
 ⟨some 9, (.extract (.tmp 6) 1), none⟩,
 ⟨some 1, (.alloc [(.int .i64 0), .nilSlice, .nilSlice, .nilSlice, .nilSlice, .nilSlice]), none⟩,
 ⟨none, (.store 6 (.tmp 1) (.tmp 8)), none⟩,
 ⟨some 2, (.move (.tmp 9)), none⟩])
 (.seq (.region [⟨some 10, (.build [(.int .i64 0), .nilSlice] [(0, 1, (.con (.int .i64 1)))]), none⟩,
 ⟨some 11, (.call 27 [(.tmp 10)]), none⟩,
 ⟨some 12, (.call 29 [(.tmp 11)]), none⟩,
 ⟨some 3, (.move (.tmp 12)), none⟩])
 (.seq (.region [⟨some 14, (.move (.tmp 3)), none⟩,
 ⟨some 15, (.call 30 [(.tmp 14)]), none⟩,
 ⟨some 13, (.move (.tmp 15)), none⟩,
 ⟨some 16, (.extract (.tmp 13) 0), none⟩,
 ⟨some 17, (.extract (.tmp 13) 1), none⟩,
 ⟨some 4, (.alloc [(.int .i64 0), .nilSlice, .nilSlice, .nilSlice, .nilSlice, .nilSlice]), none⟩,
 ⟨none, (.store 6 (.tmp 4) (.tmp 16)), none⟩,
 ⟨some 5, (.move (.tmp 17)), none⟩])
 (.seq (.region [⟨some 18, (.move (.tmp 2)), none⟩,
 ⟨some 19, (.bin .eql .prim (.tmp 18) (.con (.int .i64 9))), none⟩,
 ⟨some 20, (.move (.tmp 19)), none⟩,
 ⟨some 21, (.move (.tmp 3)), some (20, true)⟩,
 ⟨some 22, (.lenS (.tmp 21)), some (20, true)⟩,
 ⟨some 23, (.bin .eql .prim (.tmp 22) (.con (.int .i64 28))), some (20, true)⟩,
 ⟨some 24, (.pick (.tmp 20) (.tmp 23) (.con (.bool false))), none⟩,
 ⟨some 25, (.move (.tmp 24)), none⟩,
 ⟨some 26, (.move (.tmp 5)), some (25, true)⟩,
 ⟨some 27, (.bin .eql .prim (.tmp 26) (.con (.int .i64 0))), some (25, true)⟩,
 ⟨some 28, (.pick (.tmp 25) (.tmp 27) (.con (.bool false))), none⟩,
 ⟨some 29, (.move (.tmp 28)), none⟩,
 ⟨some 30, (.fieldAddr 0 (.tmp 4)), some (29, true)⟩,
 ⟨some 31, (.fieldAddr 0 (.tmp 30)), some (29, true)⟩,
 ⟨some 32, (.load1 (.tmp 31)), some (29, true)⟩,
 ⟨some 33, (.bin .eql .prim (.tmp 32) (.con (.int .i64 1))), some (29, true)⟩,
 ⟨some 34, (.pick (.tmp 29) (.tmp 33) (.con (.bool false))), none⟩,
 ⟨some 35, (.move (.tmp 34)), none⟩,
 ⟨some 36, (.fieldAddr 2 (.tmp 4)), some (35, true)⟩,
 ⟨some 37, (.load1 (.tmp 36)), some (35, true)⟩,
 ⟨some 38, (.lenS (.tmp 37)), some (35, true)⟩,
 ⟨some 39, (.bin .eql .prim (.tmp 38) (.con (.int .i64 1))), some (35, true)⟩,
 ⟨some 40, (.pick (.tmp 35) (.tmp 39) (.con (.bool false))), none⟩,
 ⟨some 0, (.move (.tmp 40)), none⟩])
 .ret)))))⟩
theorem F26_ok : cfn tab F26.body Try.f26 = some F26 := by kernel_rfl

/- milestone/milestoneref11.Build -/
def F27 : AFn := ⟨167, [.cell 6 true 2],
 (.seq (.region [⟨some 1, (.box 2 (.tmp 0)), none⟩,
 ⟨some 2, (.alloc [(.int .i64 0), .nilSlice, .nilSlice, .nilSlice, .nilSlice, .nilSlice]), none⟩])
 (.seq (.dregion [[], [0], [], [2], [2, 3, 0, 1], [1, 0, 3, 2, 4], [4, 2, 3, 0, 1, 5], [], [7], [7, 8], [8, 7, 9, 5, 1, 0, 3, 2, 4, 6], [6, 4, 2, 3, 0, 1, 5, 9, 7, 8, 10], [10, 8, 7, 9, 5, 1, 0, 3, 2, 4, 6, 11]] [.op 0 ⟨some 13, (.fieldAddr 0 (.tmp 1)), none⟩,
 .op 1 ⟨some 14, (.load1 (.tmp 13)), none⟩,
 .op 2 ⟨some 15, (.fieldAddr 0 (.tmp 1)), none⟩,
 .op 3 ⟨some 16, (.load1 (.tmp 15)), none⟩,
 .op 4 ⟨some 17, (.bin .mul .prim (.tmp 14) (.tmp 16)), none⟩,
 .op 5 ⟨some 18, (.bin .mul .prim (.tmp 17) (.con (.int .i64 5))), none⟩,
 .op 6 ⟨some 19, (.mkSlice [(.int .i64 0)] 8 (.tmp 18) (.tmp 18)), none⟩,
 .op 7 ⟨some 20, (.fieldAddr 0 (.tmp 1)), none⟩,
 .op 8 ⟨some 21, (.load1 (.tmp 20)), none⟩,
 .op 9 ⟨some 22, (.mkSlice [(.bool false)] 1 (.tmp 21) (.tmp 21)), none⟩,
 .op 10 ⟨some 23, (.build [(.int .i64 0), .nilSlice, .nilSlice, .nilSlice, .nilSlice, .nilSlice, .nilSlice, .nilSlice] [(6, 1, (.tmp 19)), (7, 1, (.tmp 22))]), none⟩,
 .op 11 ⟨some 24, (.box 8 (.tmp 23)), none⟩,
 .op 12 ⟨some 3, (.move (.tmp 24)), none⟩])
 (.seq (.dregion [[], [], [1], [], [], [4], [4, 5, 3], [3, 5, 4, 6, 1, 2], [7, 6, 5, 4, 3, 2, 1, 0], [0, 1, 2, 3, 4, 5, 6, 7, 8], [8, 7, 6, 5, 4, 3, 2, 1, 0, 9], [9, 0, 1, 2, 3, 4, 5, 6, 7, 8, 10]] [.op 0 ⟨some 25, (.move (.tmp 3)), none⟩,
 .op 1 ⟨some 26, (.fieldAddr 0 (.tmp 1)), none⟩,
 .op 2 ⟨some 27, (.load1 (.tmp 26)), none⟩,
 .op 3 ⟨some 28, (.buildSlice [] 0 []), none⟩,
 .op 4 ⟨some 29, (.fieldAddr 1 (.tmp 1)), none⟩,
 .op 5 ⟨some 30, (.load1 (.tmp 29)), none⟩,
 .op 6 ⟨some 31, (.append 4 32 (.tmp 28) (.tmp 30)), none⟩,
 .re 2 ⟨some 27, (.load1 (.tmp 26)), none⟩,
 .op 7 ⟨some 32, (.build [(.int .i64 0), .nilSlice] [(0, 1, (.tmp 27)), (1, 1, (.tmp 31))]), none⟩,
 .op 8 ⟨some 33, (.nilCheck (.tmp 25)), none⟩,
 .op 9 ⟨some 34, (.fieldAddr 0 (.tmp 33)), none⟩,
 .op 10 ⟨some 35, (.fieldAddr 0 (.tmp 34)), none⟩,
 .op 11 ⟨none, (.store 2 (.tmp 35) (.tmp 32)), none⟩])
 (.seq (.dregion [[], [], [], [2], [2, 3], [], [5], [5, 6], [4, 3, 2, 0], [0, 2, 3, 4, 8], [8, 4, 3, 2, 0, 9], [9, 0, 2, 3, 4, 8, 10], [11, 10, 9, 8, 7, 6, 5, 4, 3, 2, 0, 1], [1, 0, 2, 3, 4, 5, 6, 7, 8, 9, 10, 11, 12], [12, 11, 10, 9, 8, 7, 6, 5, 4, 3, 2, 0, 1, 13], [13, 1, 0, 2, 3, 4, 5, 6, 7, 8, 9, 10, 11, 12, 14]] [.op 0 ⟨some 36, (.move (.tmp 3)), none⟩,
 .op 1 ⟨some 37, (.move (.tmp 3)), none⟩,
 .op 2 ⟨some 38, (.fieldAddr 0 (.tmp 1)), none⟩,
 .op 3 ⟨some 39, (.load1 (.tmp 38)), none⟩,
 .op 4 ⟨some 40, (.mkSlice [.nilSlice] 24 (.tmp 39) (.tmp 39)), none⟩,
 .op 5 ⟨some 41, (.fieldAddr 0 (.tmp 1)), none⟩,
 .op 6 ⟨some 42, (.load1 (.tmp 41)), none⟩,
 .op 7 ⟨some 43, (.mkSlice [.nilSlice] 24 (.tmp 42) (.tmp 42)), none⟩,
 .op 8 ⟨some 44, (.nilCheck (.tmp 36)), none⟩,
 .op 9 ⟨some 45, (.fieldAddr 0 (.tmp 44)), none⟩,
 .op 10 ⟨some 46, (.fieldAddr 4 (.tmp 45)), none⟩,
 .op 11 ⟨none, (.store 1 (.tmp 46) (.tmp 40)), none⟩,
 .re 6 ⟨some 42, (.load1 (.tmp 41)), none⟩,
 .op 12 ⟨some 47, (.nilCheck (.tmp 37)), none⟩,
 .op 13 ⟨some 48, (.fieldAddr 0 (.tmp 47)), none⟩,
 .op 14 ⟨some 49, (.fieldAddr 5 (.tmp 48)), none⟩,
 .op 15 ⟨none, (.store 1 (.tmp 49) (.tmp 43)), none⟩])
 (.seq (.seq (.region [⟨some 4, (.move (.con (.int .i64 0))), none⟩])
 (.join [false, true, true, true] (.block 0 (.loop [false, true, true, true, true] [false, true, true, true]
 (.seq (.seq (.region [⟨some 50, (.move (.tmp 4)), none⟩,
 ⟨some 51, (.fieldAddr 0 (.tmp 1)), none⟩,
 ⟨some 52, (.load1 (.tmp 51)), none⟩,
 ⟨some 53, (.bin .lss .prim (.tmp 50) (.tmp 52)), none⟩])
 (.cond (.tmp 53)
 .skip
 (.exit 0)))
 (.seq (.block 1 (.region [⟨some 56, (.move (.tmp 3)), none⟩,
 ⟨some 57, (.move (.tmp 3)), none⟩,
 ⟨some 58, (.nilCheck (.tmp 57)), none⟩,
 ⟨some 59, (.fieldAddr 0 (.tmp 58)), none⟩,
 ⟨some 60, (.fieldAddr 2 (.tmp 59)), none⟩,
 ⟨some 61, (.load1 (.tmp 60)), none⟩,
 ⟨some 62, (.buildSlice [(.int .i64 0)] 1 [(0, 1, (.con (.int .i64 (-1))))]), none⟩,
 ⟨some 63, (.append 1 8 (.tmp 61) (.tmp 62)), none⟩,
 ⟨some 64, (.nilCheck (.tmp 56)), none⟩,
 ⟨some 65, (.fieldAddr 0 (.tmp 64)), none⟩,
 ⟨some 66, (.fieldAddr 2 (.tmp 65)), none⟩,
 ⟨none, (.store 1 (.tmp 66) (.tmp 63)), none⟩]))
 (.region [⟨some 54, (.move (.tmp 4)), none⟩,
 ⟨some 55, (.bin .add .prim (.tmp 54) (.con (.int .i64 1))), none⟩,
 ⟨some 4, (.move (.tmp 55)), none⟩])))))))
 (.seq (.region [⟨some 67, (.move (.tmp 3)), none⟩,
 ⟨some 68, (.call 55 [(.tmp 67)]), none⟩])
 (.seq (.region [⟨some 69, (.loadN 2 (.tmp 1)), none⟩,
 ⟨some 70, (.call 42 [(.tmp 69)]), none⟩,
 ⟨some 5, (.move (.tmp 70)), none⟩])
 (.seq (.seq (.region [⟨some 6, (.move (.con (.int .i64 0))), none⟩])
 (.join [false, true, true, true] (.block 2 (.loop [false, true, true, true, false, true, true] [false, true, true, true]
 (.seq (.seq (.region [⟨some 71, (.move (.tmp 6)), none⟩,
 ⟨some 72, (.move (.tmp 5)), none⟩,
 ⟨some 73, (.lenS (.tmp 72)), none⟩,
 ⟨some 74, (.bin .lss .prim (.tmp 71) (.tmp 73)), none⟩])
 (.cond (.tmp 74)
 .skip
 (.exit 2)))
 (.seq (.block 3 (.seq (.region [⟨some 77, (.move (.tmp 5)), none⟩,
 ⟨some 78, (.move (.tmp 6)), none⟩,
 ⟨some 79, (.indexAddrS 1 (.tmp 77) (.tmp 78)), none⟩,
 ⟨some 80, (.load1 (.tmp 79)), none⟩,
 ⟨some 7, (.move (.tmp 80)), none⟩])
 (.seq (.region [⟨some 81, (.move (.tmp 3)), none⟩,
 ⟨some 82, (.nilCheck (.tmp 81)), none⟩,
 ⟨some 83, (.fieldAddr 0 (.tmp 82)), none⟩,
 ⟨some 84, (.fieldAddr 2 (.tmp 83)), none⟩,
 ⟨some 85, (.load1 (.tmp 84)), none⟩,
 ⟨some 86, (.move (.tmp 7)), none⟩,
 ⟨some 87, (.move (.tmp 6)), none⟩,
 ⟨some 88, (.indexAddrS 1 (.tmp 85) (.tmp 86)), none⟩,
 ⟨none, (.store 1 (.tmp 88) (.tmp 87)), none⟩])
 (.seq (.region [⟨some 89, (.move (.tmp 3)), none⟩,
 ⟨some 90, (.move (.tmp 7)), none⟩,
 ⟨some 91, (.call 56 [(.tmp 89), (.tmp 90)]), none⟩,
 ⟨some 92, (.move (.tmp 3)), none⟩,
 ⟨some 93, (.move (.tmp 7)), none⟩,
 ⟨some 94, (.call 57 [(.tmp 92), (.tmp 93)]), none⟩,
 ⟨some 8, (.move (.tmp 91)), none⟩,
 ⟨some 9, (.move (.tmp 94)), none⟩])
 (.seq (.dregion [[], [0], [0, 1], [1, 0, 2], [2, 0, 1, 3], [], [], [6], [6, 7], [7, 6, 8], [8, 6, 7, 9], [], [], [], [12, 9, 7, 6, 8, 10, 5, 3, 1, 0, 2, 4], [4, 2, 0, 1, 3, 5, 10, 8, 6, 7, 9, 12, 14], [15, 14, 13, 12, 5, 4, 3, 2, 1, 0, 11, 9, 7, 6, 8, 10], [10, 8, 6, 7, 9, 11, 0, 1, 2, 3, 4, 5, 12, 13, 14, 15, 16]] [.op 0 ⟨some 95, (.move (.tmp 3)), none⟩,
 .op 1 ⟨some 96, (.nilCheck (.tmp 95)), none⟩,
 .op 2 ⟨some 97, (.fieldAddr 0 (.tmp 96)), none⟩,
 .op 3 ⟨some 98, (.fieldAddr 4 (.tmp 97)), none⟩,
 .op 4 ⟨some 99, (.load1 (.tmp 98)), none⟩,
 .op 5 ⟨some 100, (.move (.tmp 7)), none⟩,
 .op 6 ⟨some 101, (.move (.tmp 3)), none⟩,
 .op 7 ⟨some 102, (.nilCheck (.tmp 101)), none⟩,
 .op 8 ⟨some 103, (.fieldAddr 0 (.tmp 102)), none⟩,
 .op 9 ⟨some 104, (.fieldAddr 5 (.tmp 103)), none⟩,
 .op 10 ⟨some 105, (.load1 (.tmp 104)), none⟩,
 .op 11 ⟨some 106, (.move (.tmp 7)), none⟩,
 .op 12 ⟨some 107, (.move (.tmp 8)), none⟩,
 .op 13 ⟨some 108, (.move (.tmp 9)), none⟩,
 .op 14 ⟨some 109, (.indexAddrS 1 (.tmp 99) (.tmp 100)), none⟩,
 .op 15 ⟨none, (.store 1 (.tmp 109) (.tmp 107)), none⟩,
 .op 16 ⟨some 110, (.indexAddrS 1 (.tmp 105) (.tmp 106)), none⟩,
 .op 17 ⟨none, (.store 1 (.tmp 110) (.tmp 108)), none⟩])
 (.seq (.seq (.region [⟨some 10, (.move (.con (.int .i64 0))), none⟩])
 (.join [false, true, true, true, false, true, true, true] (.block 4 (.loop [false, true, true, true, false, true, true, true, true, true, true] [false, true, true, true, false, true, true, true]
 (.seq (.seq (.region [⟨some 111, (.move (.tmp 10)), none⟩,
 ⟨some 112, (.move (.tmp 9)), none⟩,
 ⟨some 113, (.lenS (.tmp 112)), none⟩,
 ⟨some 114, (.bin .lss .prim (.tmp 111) (.tmp 113)), none⟩])
 (.cond (.tmp 114)
 .skip
 (.exit 4)))
 (.seq (.block 5 (.seq (.region [⟨some 11, (.move (.con (.int .i64 0))), none⟩])
 (.block 6 (.loop [false, true, true, true, false, true, true, true, true, true, true, true] [false, true, true, true, false, true, true, true, true, true, true]
 (.seq (.seq (.region [⟨some 117, (.move (.tmp 11)), none⟩,
 ⟨some 118, (.move (.tmp 8)), none⟩,
 ⟨some 119, (.lenS (.tmp 118)), none⟩,
 ⟨some 120, (.bin .lss .prim (.tmp 117) (.tmp 119)), none⟩])
 (.cond (.tmp 120)
 .skip
 (.exit 6)))
 (.seq (.block 7 (.dregion [[], [], [], [2, 1], [1, 2, 3], [], [], [6, 5], [5, 6, 7], [7, 6, 5, 8, 3, 2, 1, 4, 0]] [.op 0 ⟨some 123, (.move (.tmp 3)), none⟩,
 .op 1 ⟨some 124, (.move (.tmp 9)), none⟩,
 .op 2 ⟨some 125, (.move (.tmp 10)), none⟩,
 .op 3 ⟨some 126, (.indexAddrS 1 (.tmp 124) (.tmp 125)), none⟩,
 .op 4 ⟨some 127, (.load1 (.tmp 126)), none⟩,
 .op 5 ⟨some 128, (.move (.tmp 8)), none⟩,
 .op 6 ⟨some 129, (.move (.tmp 11)), none⟩,
 .op 7 ⟨some 130, (.indexAddrS 1 (.tmp 128) (.tmp 129)), none⟩,
 .op 8 ⟨some 131, (.load1 (.tmp 130)), none⟩,
 .op 9 ⟨some 132, (.call 58 [(.tmp 123), (.tmp 127), (.tmp 131)]), none⟩]))
 (.region [⟨some 121, (.move (.tmp 11)), none⟩,
 ⟨some 122, (.bin .add .prim (.tmp 121) (.con (.int .i64 1))), none⟩,
 ⟨some 11, (.move (.tmp 122)), none⟩])))))))
 (.region [⟨some 115, (.move (.tmp 10)), none⟩,
 ⟨some 116, (.bin .add .prim (.tmp 115) (.con (.int .i64 1))), none⟩,
 ⟨some 10, (.move (.tmp 116)), none⟩])))))))
 (.region [⟨some 133, (.move (.tmp 3)), none⟩,
 ⟨some 134, (.nilCheck (.tmp 133)), none⟩,
 ⟨some 135, (.fieldAddr 7 (.tmp 134)), none⟩,
 ⟨some 136, (.load1 (.tmp 135)), none⟩,
 ⟨some 137, (.move (.tmp 7)), none⟩,
 ⟨some 138, (.indexAddrS 1 (.tmp 136) (.tmp 137)), none⟩,
 ⟨none, (.store 1 (.tmp 138) (.con (.bool true))), none⟩])))))))
 (.region [⟨some 75, (.move (.tmp 6)), none⟩,
 ⟨some 76, (.bin .add .prim (.tmp 75) (.con (.int .i64 1))), none⟩,
 ⟨some 6, (.move (.tmp 76)), none⟩])))))))
 (.seq (.seq (.region [⟨some 12, (.move (.con (.int .i64 0))), none⟩])
 (.join [false, false, true, true] (.block 8 (.loop [false, true, true, true, false, false, false, false, false, false, false, false, true] [false, false, true, true]
 (.seq (.seq (.region [⟨some 139, (.move (.tmp 12)), none⟩,
 ⟨some 140, (.fieldAddr 0 (.tmp 1)), none⟩,
 ⟨some 141, (.load1 (.tmp 140)), none⟩,
 ⟨some 142, (.bin .lss .prim (.tmp 139) (.tmp 141)), none⟩])
 (.cond (.tmp 142)
 .skip
 (.exit 8)))
 (.seq (.block 9 (.seq (.region [⟨some 145, (.move (.tmp 3)), none⟩,
 ⟨some 146, (.nilCheck (.tmp 145)), none⟩,
 ⟨some 147, (.fieldAddr 7 (.tmp 146)), none⟩,
 ⟨some 148, (.load1 (.tmp 147)), none⟩,
 ⟨some 149, (.move (.tmp 12)), none⟩,
 ⟨some 150, (.indexAddrS 1 (.tmp 148) (.tmp 149)), none⟩,
 ⟨some 151, (.load1 (.tmp 150)), none⟩,
 ⟨some 152, (.un .not (.tmp 151)), none⟩])
 (.cond (.tmp 152)
 (.dregion [[], [0], [0, 1], [1, 0, 2], [2, 0, 1, 3], [], [], [], [7, 6], [8, 7, 6, 5, 3, 1, 0, 2, 4], [4, 2, 0, 1, 3, 5, 6, 7, 8, 9]] [.op 0 ⟨some 153, (.move (.tmp 3)), none⟩,
 .op 1 ⟨some 154, (.nilCheck (.tmp 153)), none⟩,
 .op 2 ⟨some 155, (.fieldAddr 0 (.tmp 154)), none⟩,
 .op 3 ⟨some 156, (.fieldAddr 4 (.tmp 155)), none⟩,
 .op 4 ⟨some 157, (.load1 (.tmp 156)), none⟩,
 .op 5 ⟨some 158, (.move (.tmp 12)), none⟩,
 .op 6 ⟨some 159, (.move (.tmp 3)), none⟩,
 .op 7 ⟨some 160, (.move (.tmp 12)), none⟩,
 .op 8 ⟨some 161, (.call 56 [(.tmp 159), (.tmp 160)]), none⟩,
 .re 4 ⟨some 157, (.load1 (.tmp 156)), none⟩,
 .op 9 ⟨some 162, (.indexAddrS 1 (.tmp 157) (.tmp 158)), none⟩,
 .op 10 ⟨none, (.store 1 (.tmp 162) (.tmp 161)), none⟩])
 .skip)))
 (.region [⟨some 143, (.move (.tmp 12)), none⟩,
 ⟨some 144, (.bin .add .prim (.tmp 143) (.con (.int .i64 1))), none⟩,
 ⟨some 12, (.move (.tmp 144)), none⟩])))))))
 (.seq (.region [⟨some 163, (.move (.tmp 3)), none⟩,
 ⟨some 164, (.nilCheck (.tmp 163)), none⟩,
 ⟨some 165, (.fieldAddr 0 (.tmp 164)), none⟩,
 ⟨some 166, (.loadN 6 (.tmp 165)), none⟩,
 ⟨none, (.store 6 (.tmp 2) (.tmp 166)), none⟩])
 .ret))))))))))⟩
theorem F27_ok : cfn tab F27.body Try.f27 = some F27 := by kernel_rfl

/- milestone/milestonelaw1.Make -/
def F28 : AFn := ⟨80, [.cell 2 true 6],
 (.seq (.region [⟨some 6, (.alloc [(.int .i64 0), .nilSlice]), none⟩])
 (.seq (.region [⟨some 11, (.move (.tmp 0)), none⟩,
 ⟨some 12, (.call 59 [(.tmp 11), (.con (.int .i64 12))]), none⟩,
 ⟨some 13, (.bin .add .prim (.con (.int .i64 1)) (.tmp 12)), none⟩,
 ⟨some 14, (.build [(.int .i64 0), .nilSlice] [(0, 1, (.tmp 13))]), none⟩,
 ⟨some 7, (.alloc [(.int .i64 0), .nilSlice]), none⟩,
 ⟨none, (.store 2 (.tmp 7) (.tmp 14)), none⟩])
 (.seq (.seq (.region [⟨some 8, (.move (.con (.int .i64 0))), none⟩])
 (.join [false, false, false, false, false, false, true, true] (.block 0 (.loop [false, true, true, false, false, false, true, true, true] [false, false, false, false, false, false, true, true]
 (.seq (.seq (.region [⟨some 15, (.move (.tmp 8)), none⟩,
 ⟨some 16, (.move (.tmp 1)), none⟩,
 ⟨some 17, (.lenS (.tmp 16)), none⟩,
 ⟨some 18, (.bin .lss .prim (.tmp 15) (.tmp 17)), none⟩,
 ⟨some 19, (.move (.tmp 18)), none⟩,
 ⟨some 20, (.move (.tmp 8)), some (19, true)⟩,
 ⟨some 21, (.bin .lss .prim (.tmp 20) (.con (.int .i64 40))), some (19, true)⟩,
 ⟨some 22, (.pick (.tmp 19) (.tmp 21) (.con (.bool false))), none⟩])
 (.cond (.tmp 22)
 .skip
 (.exit 0)))
 (.seq (.block 1 (.seq (.region [⟨some 25, (.move (.tmp 1)), none⟩,
 ⟨some 26, (.move (.tmp 8)), none⟩,
 ⟨some 27, (.indexAddrS 1 (.tmp 25) (.tmp 26)), none⟩,
 ⟨some 28, (.load1 (.tmp 27)), none⟩,
 ⟨some 9, (.move (.tmp 28)), none⟩])
 (.seq (.dregion [[], [], [1], [1, 2, 0], [], [4], [], [6], [0, 2, 1, 3, 6, 7, 4, 5], [], [9], [5, 4, 7, 6, 3, 1, 2, 0, 8, 9, 10], [], [12], [10, 9, 8, 0, 2, 1, 3, 6, 7, 4, 5, 11, 12, 13], [13, 12, 14, 10, 9, 11, 5, 4, 7, 6, 8, 0, 2, 1, 3], [], [3, 1, 2, 0, 8, 6, 7, 4, 5, 11, 9, 10, 14, 12, 13, 15, 16]] [.op 0 ⟨some 29, (.move (.tmp 9)), none⟩,
 .op 1 ⟨some 30, (.fieldAddr 0 (.tmp 7)), none⟩,
 .op 2 ⟨some 31, (.load1 (.tmp 30)), none⟩,
 .op 4 ⟨some 33, (.move (.tmp 9)), none⟩,
 .op 5 ⟨some 34, (.bin .quo .prim (.tmp 33) (.con (.int .i64 13))), none⟩,
 .op 6 ⟨some 35, (.fieldAddr 0 (.tmp 7)), none⟩,
 .op 7 ⟨some 36, (.load1 (.tmp 35)), none⟩,
 .op 9 ⟨some 38, (.move (.tmp 9)), none⟩,
 .op 10 ⟨some 39, (.bin .quo .prim (.tmp 38) (.con (.int .i64 170))), none⟩,
 .op 12 ⟨some 41, (.move (.tmp 9)), none⟩,
 .op 13 ⟨some 42, (.bin .quo .prim (.tmp 41) (.con (.int .i64 900))), none⟩,
 .op 16 ⟨some 10, (.alloc [(.int .i64 0), (.int .i64 0), (.int .i64 0), (.int .i64 0)]), none⟩,
 .op 3 ⟨some 32, (.call 59 [(.tmp 29), (.tmp 31)]), none⟩,
 .re 7 ⟨some 36, (.load1 (.tmp 35)), none⟩,
 .op 8 ⟨some 37, (.call 59 [(.tmp 34), (.tmp 36)]), none⟩,
 .op 11 ⟨some 40, (.call 59 [(.tmp 39), (.con (.int .i64 5))]), none⟩,
 .op 14 ⟨some 43, (.call 59 [(.tmp 42), (.con (.int .i64 9))]), none⟩,
 .op 15 ⟨some 44, (.build [(.int .i64 0), (.int .i64 0), (.int .i64 0), (.int .i64 0)] [(0, 1, (.tmp 32)), (1, 1, (.tmp 37)), (2, 1, (.tmp 40)), (3, 1, (.tmp 43))]), none⟩,
 .op 17 ⟨none, (.store 4 (.tmp 10) (.tmp 44)), none⟩])
 (.seq (.seq (.region [⟨some 45, (.move (.tmp 2)), none⟩,
 ⟨some 46, (.call 59 [(.tmp 45), (.con (.int .i64 3))]), none⟩,
 ⟨some 47, (.bin .eql .prim (.tmp 46) (.con (.int .i64 0))), none⟩])
 (.join [false, true, true, false, false, false, true, true, true, true, true] (.cond (.tmp 47)
 (.region [⟨some 48, (.fieldAddr 0 (.tmp 10)), none⟩,
 ⟨some 49, (.load1 (.tmp 48)), none⟩,
 ⟨some 50, (.fieldAddr 1 (.tmp 10)), none⟩,
 ⟨some 51, (.load1 (.tmp 50)), none⟩,
 ⟨some 52, (.bin .add .prim (.tmp 49) (.tmp 51)), none⟩,
 ⟨some 53, (.call 59 [(.tmp 52), (.con (.int .i64 2))]), none⟩,
 ⟨some 54, (.fieldAddr 2 (.tmp 10)), none⟩,
 ⟨none, (.store 1 (.tmp 54) (.tmp 53)), none⟩])
 (.seq (.region [⟨some 55, (.move (.tmp 2)), none⟩,
 ⟨some 56, (.call 59 [(.tmp 55), (.con (.int .i64 3))]), none⟩,
 ⟨some 57, (.bin .eql .prim (.tmp 56) (.con (.int .i64 1))), none⟩])
 (.join [false, true, true, false, false, false, true, true, true, true, true] (.cond (.tmp 57)
 (.region [⟨some 58, (.fieldAddr 2 (.tmp 10)), none⟩,
 ⟨some 59, (.load1 (.tmp 58)), none⟩,
 ⟨some 60, (.fieldAddr 0 (.tmp 10)), none⟩,
 ⟨some 61, (.load1 (.tmp 60)), none⟩,
 ⟨some 62, (.bin .mul .prim (.tmp 59) (.tmp 61)), none⟩,
 ⟨some 63, (.call 59 [(.tmp 62), (.con (.int .i64 3))]), none⟩,
 ⟨some 64, (.fieldAddr 2 (.tmp 10)), none⟩,
 ⟨none, (.store 1 (.tmp 64) (.tmp 63)), none⟩])
 .skip))))))
 (.seq (.seq (.region [⟨some 65, (.move (.tmp 9)), none⟩,
 ⟨some 66, (.call 59 [(.tmp 65), (.con (.int .i64 31))]), none⟩,
 ⟨some 67, (.bin .eql .prim (.tmp 66) (.con (.int .i64 0))), none⟩])
 (.join [false, true, true, false, false, false, true, true, true, false, true] (.cond (.tmp 67)
 (.region [⟨some 68, (.move (.tmp 9)), none⟩,
 ⟨some 69, (.bin .quo .prim (.tmp 68) (.con (.int .i64 31))), none⟩,
 ⟨some 70, (.call 59 [(.tmp 69), (.con (.int .i64 3))]), none⟩,
 ⟨some 71, (.bin .sub .prim (.con (.int .i64 2147483647)) (.tmp 70)), none⟩,
 ⟨some 72, (.fieldAddr 3 (.tmp 10)), none⟩,
 ⟨none, (.store 1 (.tmp 72) (.tmp 71)), none⟩])
 .skip)))
 (.region [⟨some 73, (.fieldAddr 1 (.tmp 7)), none⟩,
 ⟨some 74, (.load1 (.tmp 73)), none⟩,
 ⟨some 75, (.loadN 4 (.tmp 10)), none⟩,
 ⟨some 76, (.buildSlice [(.int .i64 0), (.int .i64 0), (.int .i64 0), (.int .i64 0)] 1 [(0, 4, (.tmp 75))]), none⟩,
 ⟨some 77, (.append 4 32 (.tmp 74) (.tmp 76)), none⟩,
 ⟨some 78, (.fieldAddr 1 (.tmp 7)), none⟩,
 ⟨none, (.store 1 (.tmp 78) (.tmp 77)), none⟩]))))))
 (.region [⟨some 23, (.move (.tmp 8)), none⟩,
 ⟨some 24, (.bin .add .prim (.tmp 23) (.con (.int .i64 1))), none⟩,
 ⟨some 8, (.move (.tmp 24)), none⟩])))))))
 (.seq (.region [⟨some 79, (.loadN 2 (.tmp 7)), none⟩,
 ⟨none, (.store 2 (.tmp 6) (.tmp 79)), none⟩])
 .ret))))⟩
theorem F28_ok : cfn tab F28.body Try.f28 = some F28 := by kernel_rfl

/- milestone/index.Encode -/
def F29 : AFn := ⟨130, [.tmp 2],
 (.seq (.region [⟨some 1, (.box 6 (.tmp 0)), none⟩,
 ⟨some 2, (.move (.con .nilSlice)), none⟩])
 (.seq (.region [⟨some 15, (.buildSlice [(.int .u8 0), (.int .u8 0), (.int .u8 0), (.int .u8 0)] 4 [(0, 1, (.con (.int .u8 77))), (1, 1, (.con (.int .u8 73))), (2, 1, (.con (.int .u8 88))), (3, 1, (.con (.int .u8 49)))]), none⟩,
 ⟨some 16, (.sameBytes (.tmp 15)), none⟩,
 ⟨some 17, (.build [.nilSlice] [(0, 1, (.tmp 16))]), none⟩,
 ⟨some 18, (.box 1 (.tmp 17)), none⟩,
 ⟨some 3, (.move (.tmp 18)), none⟩])
 (.seq (.region [⟨some 19, (.move (.tmp 3)), none⟩,
 ⟨some 20, (.mkFunc (.func 60) [(.tmp 19)] []), none⟩,
 ⟨some 4, (.move (.tmp 20)), none⟩])
 (.seq (.region [⟨some 21, (.move (.tmp 4)), none⟩,
 ⟨some 22, (.fieldAddr 0 (.tmp 1)), none⟩,
 ⟨some 23, (.fieldAddr 0 (.tmp 22)), none⟩,
 ⟨some 24, (.load1 (.tmp 23)), none⟩,
 ⟨some 25, (.fieldAddr 0 (.tmp 1)), none⟩,
 ⟨some 26, (.fieldAddr 1 (.tmp 25)), none⟩,
 ⟨some 27, (.load1 (.tmp 26)), none⟩,
 ⟨some 28, (.lenS (.tmp 27)), none⟩,
 ⟨some 29, (.buildSlice [(.int .i64 0), (.int .i64 0)] 2 [(0, 1, (.tmp 24)), (1, 1, (.tmp 28))]), none⟩,
 ⟨some 30, (.callv (.tmp 21) [(.tmp 29)]), none⟩])
 (.seq (.seq (.region [⟨some 31, (.fieldAddr 0 (.tmp 1)), none⟩,
 ⟨some 32, (.fieldAddr 1 (.tmp 31)), none⟩,
 ⟨some 33, (.load1 (.tmp 32)), none⟩,
 ⟨some 34, (.lenS (.tmp 33)), none⟩,
 ⟨some 35, (.move (.con (.int .i64 0))), none⟩])
 (.join [false, true, true, true, true] (.block 0 (.loop [false, true, false, true, true, false, false, false, false, false, false, false, false, false, false, false, false, false, false, false, false, false, false, false, false, false, false, false, false, false, false, false, false, true, true, true] [false, true, true, true, true]
 (.seq (.region [⟨some 36, (.bin .lss .prim (.tmp 35) (.tmp 34)), none⟩])
 (.seq (.cond (.tmp 36)
 .skip
 (.exit 0))
 (.seq (.block 1 (.seq (.region [⟨some 37, (.indexAddrS 4 (.tmp 33) (.tmp 35)), none⟩,
 ⟨some 38, (.loadN 4 (.tmp 37)), none⟩,
 ⟨some 6, (.alloc [(.int .i64 0), (.int .i64 0), (.int .i64 0), (.int .i64 0)]), none⟩,
 ⟨none, (.store 4 (.tmp 6) (.tmp 38)), none⟩])
 (.region [⟨some 39, (.move (.tmp 4)), none⟩,
 ⟨some 40, (.fieldAddr 0 (.tmp 6)), none⟩,
 ⟨some 41, (.load1 (.tmp 40)), none⟩,
 ⟨some 42, (.fieldAddr 1 (.tmp 6)), none⟩,
 ⟨some 43, (.load1 (.tmp 42)), none⟩,
 ⟨some 44, (.fieldAddr 2 (.tmp 6)), none⟩,
 ⟨some 45, (.load1 (.tmp 44)), none⟩,
 ⟨some 46, (.fieldAddr 3 (.tmp 6)), none⟩,
 ⟨some 47, (.load1 (.tmp 46)), none⟩,
 ⟨some 48, (.buildSlice [(.int .i64 0), (.int .i64 0), (.int .i64 0), (.int .i64 0)] 4 [(0, 1, (.tmp 41)), (1, 1, (.tmp 43)), (2, 1, (.tmp 45)), (3, 1, (.tmp 47))]), none⟩,
 ⟨some 49, (.callv (.tmp 39) [(.tmp 48)]), none⟩])))
 (.region [⟨some 50, (.bin .add .prim (.tmp 35) (.con (.int .i64 1))), none⟩,
 ⟨some 35, (.move (.tmp 50)), none⟩]))))))))
 (.seq (.seq (.region [⟨some 51, (.fieldAddr 2 (.tmp 1)), none⟩,
 ⟨some 52, (.load1 (.tmp 51)), none⟩,
 ⟨some 53, (.lenS (.tmp 52)), none⟩,
 ⟨some 54, (.move (.con (.int .i64 0))), none⟩])
 (.join [false, true, true, true, true] (.block 2 (.loop [false, true, false, true, true, false, false, false, false, false, false, false, false, false, false, false, false, false, false, false, false, false, false, false, false, false, false, false, false, false, false, false, false, false, false, false, false, false, false, false, false, false, false, false, false, false, false, false, false, false, false, false, true, true, true] [false, true, true, true, true]
 (.seq (.region [⟨some 55, (.bin .lss .prim (.tmp 54) (.tmp 53)), none⟩])
 (.seq (.cond (.tmp 55)
 .skip
 (.exit 2))
 (.seq (.block 3 (.seq (.region [⟨some 56, (.indexAddrS 1 (.tmp 52) (.tmp 54)), none⟩,
 ⟨some 57, (.load1 (.tmp 56)), none⟩,
 ⟨some 8, (.move (.tmp 57)), none⟩])
 (.region [⟨some 58, (.move (.tmp 4)), none⟩,
 ⟨some 59, (.move (.tmp 8)), none⟩,
 ⟨some 60, (.bin .add .prim (.tmp 59) (.con (.int .i64 1))), none⟩,
 ⟨some 61, (.buildSlice [(.int .i64 0)] 1 [(0, 1, (.tmp 60))]), none⟩,
 ⟨some 62, (.callv (.tmp 58) [(.tmp 61)]), none⟩])))
 (.region [⟨some 63, (.bin .add .prim (.tmp 54) (.con (.int .i64 1))), none⟩,
 ⟨some 54, (.move (.tmp 63)), none⟩]))))))))
 (.seq (.region [⟨some 64, (.move (.tmp 4)), none⟩,
 ⟨some 65, (.fieldAddr 3 (.tmp 1)), none⟩,
 ⟨some 66, (.load1 (.tmp 65)), none⟩,
 ⟨some 67, (.lenS (.tmp 66)), none⟩,
 ⟨some 68, (.buildSlice [(.int .i64 0)] 1 [(0, 1, (.tmp 67))]), none⟩,
 ⟨some 69, (.callv (.tmp 64) [(.tmp 68)]), none⟩])
 (.seq (.seq (.region [⟨some 70, (.fieldAddr 3 (.tmp 1)), none⟩,
 ⟨some 71, (.load1 (.tmp 70)), none⟩,
 ⟨some 72, (.lenS (.tmp 71)), none⟩,
 ⟨some 73, (.move (.con (.int .i64 0))), none⟩])
 (.join [false, true, true, true, true] (.block 4 (.loop [false, true, false, true, true, false, false, false, false, false, false, false, false, false, false, false, false, false, false, false, false, false, false, false, false, false, false, false, false, false, false, false, false, false, false, false, false, false, false, false, false, false, false, false, false, false, false, false, false, false, false, false, false, false, false, false, false, false, false, false, false, false, false, false, false, false, false, false, false, false, false, true, true, true] [false, true, true, true, true]
 (.seq (.region [⟨some 74, (.bin .lss .prim (.tmp 73) (.tmp 72)), none⟩])
 (.seq (.cond (.tmp 74)
 .skip
 (.exit 4))
 (.seq (.block 5 (.seq (.region [⟨some 75, (.indexAddrS 7 (.tmp 71) (.tmp 73)), none⟩,
 ⟨some 76, (.loadN 7 (.tmp 75)), none⟩,
 ⟨some 10, (.alloc [(.int .i64 0), (.int .i64 0), (.int .i64 0), (.int .i64 0), (.int .i64 0), (.int .i64 0), (.int .i64 0)]), none⟩,
 ⟨none, (.store 7 (.tmp 10) (.tmp 76)), none⟩])
 (.seq (.region [⟨some 77, (.move (.tmp 4)), none⟩,
 ⟨some 78, (.fieldAddr 0 (.tmp 10)), none⟩,
 ⟨some 79, (.load1 (.tmp 78)), none⟩,
 ⟨some 80, (.fieldAddr 1 (.tmp 10)), none⟩,
 ⟨some 81, (.load1 (.tmp 80)), none⟩,
 ⟨some 82, (.fieldAddr 2 (.tmp 10)), none⟩,
 ⟨some 83, (.load1 (.tmp 82)), none⟩,
 ⟨some 84, (.buildSlice [(.int .i64 0), (.int .i64 0), (.int .i64 0)] 3 [(0, 1, (.tmp 79)), (1, 1, (.tmp 81)), (2, 1, (.tmp 83))]), none⟩,
 ⟨some 85, (.callv (.tmp 77) [(.tmp 84)]), none⟩])
 (.seq (.region [⟨some 86, (.move (.tmp 3)), none⟩,
 ⟨some 87, (.fieldAddr 3 (.tmp 10)), none⟩,
 ⟨some 88, (.load1 (.tmp 87)), none⟩,
 ⟨some 89, (.call 61 [(.tmp 86), (.tmp 88)]), none⟩])
 (.region [⟨some 90, (.move (.tmp 4)), none⟩,
 ⟨some 91, (.fieldAddr 4 (.tmp 10)), none⟩,
 ⟨some 92, (.load1 (.tmp 91)), none⟩,
 ⟨some 93, (.bin .add .prim (.tmp 92) (.con (.int .i64 1))), none⟩,
 ⟨some 94, (.fieldAddr 5 (.tmp 10)), none⟩,
 ⟨some 95, (.load1 (.tmp 94)), none⟩,
 ⟨some 96, (.fieldAddr 6 (.tmp 10)), none⟩,
 ⟨some 97, (.load1 (.tmp 96)), none⟩,
 ⟨some 98, (.buildSlice [(.int .i64 0), (.int .i64 0), (.int .i64 0)] 3 [(0, 1, (.tmp 93)), (1, 1, (.tmp 95)), (2, 1, (.tmp 97))]), none⟩,
 ⟨some 99, (.callv (.tmp 90) [(.tmp 98)]), none⟩])))))
 (.region [⟨some 100, (.bin .add .prim (.tmp 73) (.con (.int .i64 1))), none⟩,
 ⟨some 73, (.move (.tmp 100)), none⟩]))))))))
 (.seq (.seq (.region [⟨some 101, (.fieldAddr 4 (.tmp 1)), none⟩,
 ⟨some 102, (.load1 (.tmp 101)), none⟩,
 ⟨some 103, (.fieldAddr 5 (.tmp 1)), none⟩,
 ⟨some 104, (.load1 (.tmp 103)), none⟩,
 ⟨some 105, (.build [.nilSlice, .nilSlice] [(0, 1, (.tmp 102)), (1, 1, (.tmp 104))]), none⟩,
 ⟨some 106, (.move (.con (.int .i64 0))), none⟩])
 (.join [false, false, true, true] (.block 6 (.loop [false, false, false, true, true, false, false, false, false, false, false, false, false, false, false, false, false, false, false, false, false, false, false, false, false, false, false, false, false, false, false, false, false, false, false, false, false, false, false, false, false, false, false, false, false, false, false, false, false, false, false, false, false, false, false, false, false, false, false, false, false, false, false, false, false, false, false, false, false, false, false, false, false, false, false, false, false, false, false, false, false, false, false, false, false, false, false, false, false, false, false, false, false, false, false, false, false, false, false, false, false, false, false, false, false, true, true] [false, false, true, true]
 (.seq (.region [⟨some 107, (.bin .lss .prim (.tmp 106) (.con (.int .i64 2))), none⟩])
 (.seq (.cond (.tmp 107)
 .skip
 (.exit 6))
 (.seq (.block 7 (.seq (.region [⟨some 108, (.indexA 2 1 false (.tmp 105) (.tmp 106)), none⟩,
 ⟨some 12, (.move (.tmp 108)), none⟩])
 (.seq (.region [⟨some 109, (.move (.tmp 12)), none⟩,
 ⟨some 110, (.lenS (.tmp 109)), none⟩,
 ⟨some 111, (.move (.con (.int .i64 0))), none⟩])
 (.block 8 (.loop [false, false, false, true, true, false, false, false, false, false, false, false, false, false, false, false, false, false, false, false, false, false, false, false, false, false, false, false, false, false, false, false, false, false, false, false, false, false, false, false, false, false, false, false, false, false, false, false, false, false, false, false, false, false, false, false, false, false, false, false, false, false, false, false, false, false, false, false, false, false, false, false, false, false, false, false, false, false, false, false, false, false, false, false, false, false, false, false, false, false, false, false, false, false, false, false, false, false, false, false, false, false, false, false, false, true, true, false, false, true, true, true] [false, false, true, true, true, false, false, false, false, false, false, false, false, false, false, false, false, false, false, false, false, false, false, false, false, false, false, false, false, false, false, false, false, false, false, false, false, false, false, false, false, false, false, false, false, false, false, false, false, false, false, false, false, false, false, false, false, false, false, false, false, false, false, false, false, false, false, false, false, false, false, false, false, false, false, false, false, false, false, false, false, false, false, false, false, false, false, false, false, false, false, false, false, false, false, false, false, false, false, false, false, false, false, false, false, true, true]
 (.seq (.region [⟨some 112, (.bin .lss .prim (.tmp 111) (.tmp 110)), none⟩])
 (.seq (.cond (.tmp 112)
 .skip
 (.exit 8))
 (.seq (.block 9 (.seq (.region [⟨some 113, (.indexAddrS 1 (.tmp 109) (.tmp 111)), none⟩,
 ⟨some 114, (.load1 (.tmp 113)), none⟩,
 ⟨some 14, (.move (.tmp 114)), none⟩])
 (.seq (.region [⟨some 115, (.move (.tmp 4)), none⟩,
 ⟨some 116, (.move (.tmp 14)), none⟩,
 ⟨some 117, (.lenS (.tmp 116)), none⟩,
 ⟨some 118, (.buildSlice [(.int .i64 0)] 1 [(0, 1, (.tmp 117))]), none⟩,
 ⟨some 119, (.callv (.tmp 115) [(.tmp 118)]), none⟩])
 (.region [⟨some 120, (.move (.tmp 4)), none⟩,
 ⟨some 121, (.move (.tmp 14)), none⟩,
 ⟨some 122, (.callv (.tmp 120) [(.tmp 121)]), none⟩]))))
 (.region [⟨some 123, (.bin .add .prim (.tmp 111) (.con (.int .i64 1))), none⟩,
 ⟨some 111, (.move (.tmp 123)), none⟩])))))))))
 (.region [⟨some 124, (.bin .add .prim (.tmp 106) (.con (.int .i64 1))), none⟩,
 ⟨some 106, (.move (.tmp 124)), none⟩]))))))))
 (.seq (.region [⟨some 125, (.move (.tmp 3)), none⟩,
 ⟨some 126, (.nilCheck (.tmp 125)), none⟩,
 ⟨some 127, (.fieldAddr 0 (.tmp 126)), none⟩,
 ⟨some 128, (.load1 (.tmp 127)), none⟩,
 ⟨some 129, (.call 62 [(.tmp 128)]), none⟩,
 ⟨some 2, (.move (.tmp 129)), none⟩])
 .ret))))))))))⟩
theorem F29_ok : cfn tab F29.body Try.f29 = some F29 := by kernel_rfl

/- milestone/index.Decode -/
def F30 : AFn := ⟨152, [.cell 6 true 2, .tmp 3],
 (.seq (.region [⟨some 2, (.alloc [(.int .i64 0), .nilSlice, .nilSlice, .nilSlice, .nilSlice, .nilSlice]), none⟩,
 ⟨some 3, (.move (.con (.int .i64 0))), none⟩])
 (.scope (.seq (.region [⟨some 4, (.alloc [(.int .i64 0), .nilSlice, .nilSlice, .nilSlice, .nilSlice, .nilSlice]), none⟩])
 (.seq (.region [⟨some 11, (.move (.tmp 0)), none⟩,
 ⟨some 12, (.buildSlice [(.int .u8 0), (.int .u8 0), (.int .u8 0), (.int .u8 0)] 4 [(0, 1, (.con (.int .u8 77))), (1, 1, (.con (.int .u8 73))), (2, 1, (.con (.int .u8 88))), (3, 1, (.con (.int .u8 49)))]), none⟩,
 ⟨some 13, (.sameBytes (.tmp 12)), none⟩,
 ⟨some 14, (.call 63 [(.tmp 11), (.tmp 13)]), none⟩,
 ⟨some 10, (.move (.tmp 14)), none⟩,
 ⟨some 15, (.extract (.tmp 10) 0), none⟩,
 ⟨some 16, (.extract (.tmp 10) 1), none⟩,
 ⟨some 5, (.move (.tmp 15)), none⟩,
 ⟨some 6, (.move (.tmp 16)), none⟩])
 (.seq (.region [⟨some 17, (.move (.tmp 5)), none⟩,
 ⟨some 18, (.build [.nilSlice, (.bool false)] [(0, 1, (.tmp 17))]), none⟩,
 ⟨some 19, (.box 2 (.tmp 18)), none⟩,
 ⟨some 7, (.move (.tmp 19)), none⟩])
 (.seq (.region [⟨some 20, (.move (.tmp 7)), none⟩,
 ⟨some 21, (.mkFunc (.func 64) [(.tmp 20)] []), none⟩,
 ⟨some 8, (.move (.tmp 21)), none⟩])
 (.seq (.region [⟨some 9, (.move (.con (.int .i64 0))), none⟩])
 (.seq (.seq (.region [⟨some 22, (.move (.tmp 6)), none⟩,
 ⟨some 23, (.un .not (.tmp 22)), none⟩])
 (.cond (.tmp 23)
 (.goto 0)
 .skip))
 (.seq (.region [⟨some 24, (.move (.tmp 8)), none⟩,
 ⟨some 25, (.callv (.tmp 24) []), none⟩,
 ⟨some 26, (.fieldAddr 0 (.tmp 4)), none⟩,
 ⟨some 27, (.fieldAddr 0 (.tmp 26)), none⟩,
 ⟨none, (.store 1 (.tmp 27) (.tmp 25)), none⟩])
 (.seq (.region [⟨some 28, (.move (.tmp 7)), none⟩,
 ⟨some 29, (.call 65 [(.tmp 28), (.con (.int .i64 16))]), none⟩,
 ⟨some 9, (.move (.tmp 29)), none⟩])
 (.seq (.seq (.region [⟨some 30, (.move (.tmp 9)), none⟩,
 ⟨some 31, (.move (.con (.int .i64 0))), none⟩])
 (.join [false, false, true, true, true, false, false, true, true] (.block 0 (.loop [false, false, true, false, true, false, false, true, true, false, false, false, false, false, false, false, false, false, false, false, false, false, false, false, false, false, false, false, false, false, true, true] [false, false, true, true, true, false, false, true, true]
 (.seq (.region [⟨some 32, (.bin .lss .prim (.tmp 31) (.tmp 30)), none⟩])
 (.seq (.cond (.tmp 32)
 .skip
 (.exit 0))
 (.seq (.block 1 (.dregion [[], [0], [0, 1], [], [3], [3, 4], [4, 3, 5, 1, 0, 2], [6, 5, 4, 3, 2, 1, 0], [0, 1, 2, 3, 4, 5, 6, 7], [7, 6, 5, 4, 3, 2, 1, 0, 8]] [.op 0 ⟨some 33, (.fieldAddr 0 (.tmp 4)), none⟩,
 .op 1 ⟨some 34, (.fieldAddr 1 (.tmp 33)), none⟩,
 .op 2 ⟨some 35, (.load1 (.tmp 34)), none⟩,
 .op 3 ⟨some 36, (.move (.tmp 7)), none⟩,
 .op 4 ⟨some 37, (.call 66 [(.tmp 36)]), none⟩,
 .re 2 ⟨some 35, (.load1 (.tmp 34)), none⟩,
 .op 5 ⟨some 38, (.buildSlice [(.int .i64 0), (.int .i64 0), (.int .i64 0), (.int .i64 0)] 1 [(0, 4, (.tmp 37))]), none⟩,
 .op 6 ⟨some 39, (.append 4 32 (.tmp 35) (.tmp 38)), none⟩,
 .op 7 ⟨some 40, (.fieldAddr 0 (.tmp 4)), none⟩,
 .op 8 ⟨some 41, (.fieldAddr 1 (.tmp 40)), none⟩,
 .op 9 ⟨none, (.store 1 (.tmp 41) (.tmp 39)), none⟩]))
 (.region [⟨some 42, (.bin .add .prim (.tmp 31) (.con (.int .i64 1))), none⟩,
 ⟨some 31, (.move (.tmp 42)), none⟩]))))))))
 (.seq (.seq (.dregion [[], [0], [0, 1], [], [3], [3, 4], [4, 3, 5], [5, 3, 4, 6], [6, 4, 3, 5, 7], [7, 5, 3, 4, 6, 8, 1, 0, 2], [2, 0, 1, 8, 6, 4, 3, 5, 7, 9], [9, 7, 5, 3, 4, 6, 8, 1, 0, 2, 10], [10, 2, 0, 1, 8, 6, 4, 3, 5, 7, 9, 11], [11, 9, 7, 5, 3, 4, 6, 8, 1, 0, 2, 10, 12], [12, 10, 2, 0, 1, 8, 6, 4, 3, 5, 7, 9, 11, 13], [13, 11, 12, 14, 9, 7, 5, 3, 4, 6, 8, 1, 0, 2, 10]] [.op 0 ⟨some 43, (.fieldAddr 0 (.tmp 4)), none⟩,
 .op 1 ⟨some 44, (.fieldAddr 0 (.tmp 43)), none⟩,
 .op 2 ⟨some 45, (.load1 (.tmp 44)), none⟩,
 .op 3 ⟨some 46, (.move (.tmp 7)), none⟩,
 .op 4 ⟨some 47, (.nilCheck (.tmp 46)), none⟩,
 .op 5 ⟨some 48, (.fieldAddr 0 (.tmp 47)), none⟩,
 .op 6 ⟨some 49, (.load1 (.tmp 48)), none⟩,
 .op 7 ⟨some 50, (.lenS (.tmp 49)), none⟩,
 .op 8 ⟨some 51, (.bin .quo .prim (.tmp 50) (.con (.int .i64 4))), none⟩,
 .op 9 ⟨some 52, (.bin .gtr .prim (.tmp 45) (.tmp 51)), none⟩,
 .op 10 ⟨some 53, (.move (.tmp 52)), none⟩,
 .op 11 ⟨some 54, (.move (.tmp 7)), some (53, false)⟩,
 .op 12 ⟨some 55, (.nilCheck (.tmp 54)), some (53, false)⟩,
 .op 13 ⟨some 56, (.fieldAddr 1 (.tmp 55)), some (53, false)⟩,
 .op 14 ⟨some 57, (.load1 (.tmp 56)), some (53, false)⟩,
 .op 15 ⟨some 58, (.pick (.tmp 53) (.con (.bool true)) (.tmp 57)), none⟩])
 (.cond (.tmp 58)
 (.goto 0)
 .skip))
 (.seq (.seq (.region [⟨some 59, (.fieldAddr 0 (.tmp 4)), none⟩,
 ⟨some 60, (.fieldAddr 0 (.tmp 59)), none⟩,
 ⟨some 61, (.load1 (.tmp 60)), none⟩,
 ⟨some 62, (.move (.con (.int .i64 0))), none⟩])
 (.join [false, false, true, true, true, false, false, true] (.block 2 (.loop [false, false, true, false, true, false, false, true, true, false, false, false, false, false, false, false, false, false, false, false, false, false, false, false, false, false, false, false, false, false, false, false, false, false, false, false, false, false, false, false, false, false, false, false, false, false, false, false, false, false, false, false, false, false, false, false, false, false, false, false, false, true, true] [false, false, true, true, true, false, false, true]
 (.seq (.region [⟨some 63, (.bin .lss .prim (.tmp 62) (.tmp 61)), none⟩])
 (.seq (.cond (.tmp 63)
 .skip
 (.exit 2))
 (.seq (.block 3 (.dregion [[], [0], [], [2], [2, 3], [3, 2, 4], [4, 2, 3, 5, 0, 1], [6, 5, 4, 3, 2, 1, 0], [0, 1, 2, 3, 4, 5, 6, 7]] [.op 0 ⟨some 64, (.fieldAddr 2 (.tmp 4)), none⟩,
 .op 1 ⟨some 65, (.load1 (.tmp 64)), none⟩,
 .op 2 ⟨some 66, (.move (.tmp 8)), none⟩,
 .op 3 ⟨some 67, (.callv (.tmp 66) []), none⟩,
 .re 1 ⟨some 65, (.load1 (.tmp 64)), none⟩,
 .op 4 ⟨some 68, (.bin .sub .prim (.tmp 67) (.con (.int .i64 1))), none⟩,
 .op 5 ⟨some 69, (.buildSlice [(.int .i64 0)] 1 [(0, 1, (.tmp 68))]), none⟩,
 .op 6 ⟨some 70, (.append 1 8 (.tmp 65) (.tmp 69)), none⟩,
 .op 7 ⟨some 71, (.fieldAddr 2 (.tmp 4)), none⟩,
 .op 8 ⟨none, (.store 1 (.tmp 71) (.tmp 70)), none⟩]))
 (.region [⟨some 72, (.bin .add .prim (.tmp 62) (.con (.int .i64 1))), none⟩,
 ⟨some 62, (.move (.tmp 72)), none⟩]))))))))
 (.seq (.seq (.region [⟨some 73, (.move (.tmp 7)), none⟩,
 ⟨some 74, (.call 65 [(.tmp 73), (.con (.int .i64 32))]), none⟩,
 ⟨some 75, (.move (.con (.int .i64 0))), none⟩])
 (.join [false, false, true, true, true, false, false, true] (.block 4 (.loop [false, false, true, false, true, false, false, true, false, false, false, false, false, false, false, false, false, false, false, false, false, false, false, false, false, false, false, false, false, false, false, false, false, false, false, false, false, false, false, false, false, false, false, false, false, false, false, false, false, false, false, false, false, false, false, false, false, false, false, false, false, false, false, false, false, false, false, false, false, false, false, false, false, false, true, true] [false, false, true, true, true, false, false, true]
 (.seq (.region [⟨some 76, (.bin .lss .prim (.tmp 75) (.tmp 74)), none⟩])
 (.seq (.cond (.tmp 76)
 .skip
 (.exit 4))
 (.seq (.block 5 (.dregion [[], [0], [], [2], [2, 3], [3, 2, 4, 0, 1], [5, 4, 3, 2, 1, 0], [0, 1, 2, 3, 4, 5, 6]] [.op 0 ⟨some 77, (.fieldAddr 3 (.tmp 4)), none⟩,
 .op 1 ⟨some 78, (.load1 (.tmp 77)), none⟩,
 .op 2 ⟨some 79, (.move (.tmp 7)), none⟩,
 .op 3 ⟨some 80, (.call 67 [(.tmp 79)]), none⟩,
 .re 1 ⟨some 78, (.load1 (.tmp 77)), none⟩,
 .op 4 ⟨some 81, (.buildSlice [(.int .i64 0), (.int .i64 0), (.int .i64 0), (.int .i64 0), (.int .i64 0), (.int .i64 0), (.int .i64 0)] 1 [(0, 7, (.tmp 80))]), none⟩,
 .op 5 ⟨some 82, (.append 7 56 (.tmp 78) (.tmp 81)), none⟩,
 .op 6 ⟨some 83, (.fieldAddr 3 (.tmp 4)), none⟩,
 .op 7 ⟨none, (.store 1 (.tmp 83) (.tmp 82)), none⟩]))
 (.region [⟨some 84, (.bin .add .prim (.tmp 75) (.con (.int .i64 1))), none⟩,
 ⟨some 75, (.move (.tmp 84)), none⟩]))))))))
 (.seq (.seq (.region [⟨some 85, (.fieldAddr 0 (.tmp 4)), none⟩,
 ⟨some 86, (.fieldAddr 0 (.tmp 85)), none⟩,
 ⟨some 87, (.load1 (.tmp 86)), none⟩,
 ⟨some 88, (.move (.con (.int .i64 0))), none⟩])
 (.join [false, false, true, true, true, false, false, true] (.block 6 (.loop [false, false, true, false, true, false, false, true, false, false, false, false, false, false, false, false, false, false, false, false, false, false, false, false, false, false, false, false, false, false, false, false, false, false, false, false, false, false, false, false, false, false, false, false, false, false, false, false, false, false, false, false, false, false, false, false, false, false, false, false, false, false, false, false, false, false, false, false, false, false, false, false, false, false, false, false, false, false, false, false, false, false, false, false, false, false, false, true, true] [false, false, true, true, true, false, false, true]
 (.seq (.region [⟨some 89, (.bin .lss .prim (.tmp 88) (.tmp 87)), none⟩])
 (.seq (.cond (.tmp 89)
 .skip
 (.exit 6))
 (.seq (.block 7 (.dregion [[], [0], [], [2], [2, 3], [3, 2, 4, 0, 1], [5, 4, 3, 2, 1, 0], [0, 1, 2, 3, 4, 5, 6]] [.op 0 ⟨some 90, (.fieldAddr 4 (.tmp 4)), none⟩,
 .op 1 ⟨some 91, (.load1 (.tmp 90)), none⟩,
 .op 2 ⟨some 92, (.move (.tmp 7)), none⟩,
 .op 3 ⟨some 93, (.call 68 [(.tmp 92)]), none⟩,
 .re 1 ⟨some 91, (.load1 (.tmp 90)), none⟩,
 .op 4 ⟨some 94, (.buildSlice [.nilSlice] 1 [(0, 1, (.tmp 93))]), none⟩,
 .op 5 ⟨some 95, (.append 1 24 (.tmp 91) (.tmp 94)), none⟩,
 .op 6 ⟨some 96, (.fieldAddr 4 (.tmp 4)), none⟩,
 .op 7 ⟨none, (.store 1 (.tmp 96) (.tmp 95)), none⟩]))
 (.region [⟨some 97, (.bin .add .prim (.tmp 88) (.con (.int .i64 1))), none⟩,
 ⟨some 88, (.move (.tmp 97)), none⟩]))))))))
 (.seq (.seq (.region [⟨some 98, (.fieldAddr 0 (.tmp 4)), none⟩,
 ⟨some 99, (.fieldAddr 0 (.tmp 98)), none⟩,
 ⟨some 100, (.load1 (.tmp 99)), none⟩,
 ⟨some 101, (.move (.con (.int .i64 0))), none⟩])
 (.join [false, false, true, true, true, false, false, true] (.block 8 (.loop [false, false, true, false, true, false, false, true, false, false, false, false, false, false, false, false, false, false, false, false, false, false, false, false, false, false, false, false, false, false, false, false, false, false, false, false, false, false, false, false, false, false, false, false, false, false, false, false, false, false, false, false, false, false, false, false, false, false, false, false, false, false, false, false, false, false, false, false, false, false, false, false, false, false, false, false, false, false, false, false, false, false, false, false, false, false, false, false, false, false, false, false, false, false, false, false, false, false, false, false, true, true] [false, false, true, true, true, false, false, true]
 (.seq (.region [⟨some 102, (.bin .lss .prim (.tmp 101) (.tmp 100)), none⟩])
 (.seq (.cond (.tmp 102)
 .skip
 (.exit 8))
 (.seq (.block 9 (.dregion [[], [0], [], [2], [2, 3], [3, 2, 4, 0, 1], [5, 4, 3, 2, 1, 0], [0, 1, 2, 3, 4, 5, 6]] [.op 0 ⟨some 103, (.fieldAddr 5 (.tmp 4)), none⟩,
 .op 1 ⟨some 104, (.load1 (.tmp 103)), none⟩,
 .op 2 ⟨some 105, (.move (.tmp 7)), none⟩,
 .op 3 ⟨some 106, (.call 68 [(.tmp 105)]), none⟩,
 .re 1 ⟨some 104, (.load1 (.tmp 103)), none⟩,
 .op 4 ⟨some 107, (.buildSlice [.nilSlice] 1 [(0, 1, (.tmp 106))]), none⟩,
 .op 5 ⟨some 108, (.append 1 24 (.tmp 104) (.tmp 107)), none⟩,
 .op 6 ⟨some 109, (.fieldAddr 5 (.tmp 4)), none⟩,
 .op 7 ⟨none, (.store 1 (.tmp 109) (.tmp 108)), none⟩]))
 (.region [⟨some 110, (.bin .add .prim (.tmp 101) (.con (.int .i64 1))), none⟩,
 ⟨some 101, (.move (.tmp 110)), none⟩]))))))))
 (.seq (.seq (.region [⟨some 111, (.move (.tmp 7)), none⟩,
 ⟨some 112, (.nilCheck (.tmp 111)), none⟩,
 ⟨some 113, (.fieldAddr 1 (.tmp 112)), none⟩,
 ⟨some 114, (.load1 (.tmp 113)), none⟩,
 ⟨some 115, (.move (.tmp 114)), none⟩,
 ⟨some 116, (.move (.tmp 7)), some (115, false)⟩,
 ⟨some 117, (.nilCheck (.tmp 116)), some (115, false)⟩,
 ⟨some 118, (.fieldAddr 0 (.tmp 117)), some (115, false)⟩,
 ⟨some 119, (.load1 (.tmp 118)), some (115, false)⟩,
 ⟨some 120, (.lenS (.tmp 119)), some (115, false)⟩,
 ⟨some 121, (.bin .gtr .prim (.tmp 120) (.con (.int .i64 0))), some (115, false)⟩,
 ⟨some 122, (.pick (.tmp 115) (.con (.bool true)) (.tmp 121)), none⟩,
 ⟨some 123, (.move (.tmp 122)), none⟩,
 ⟨some 124, (.loadN 6 (.tmp 4)), some (123, false)⟩,
 ⟨some 125, (.call 54 [(.tmp 124)]), some (123, false)⟩,
 ⟨some 126, (.un .not (.tmp 125)), some (123, false)⟩,
 ⟨some 127, (.pick (.tmp 123) (.con (.bool true)) (.tmp 126)), none⟩])
 (.cond (.tmp 127)
 (.goto 0)
 .skip))
 (.seq (.dregion [[], [0], [0, 1], [1, 0, 2], [], [4], [2, 0, 1, 3, 4, 5], [], [7], [5, 4, 3, 1, 0, 2, 6, 7, 8], [], [10], [8, 7, 6, 2, 0, 1, 3, 4, 5, 9, 10, 11], [], [13], [11, 10, 9, 5, 4, 3, 1, 0, 2, 6, 7, 8, 12, 13, 14], [14, 13, 11, 10, 8, 7, 5, 4, 3, 2, 1, 0], [0, 1, 2, 3, 4, 5, 7, 8, 10, 11, 13, 14, 16], [12, 6, 9, 15, 16, 14, 13, 11, 10, 8, 7, 5, 4, 3, 2, 1, 0, 17], [15, 9, 12, 18, 17, 16, 14, 13, 11, 10, 8, 7, 6, 5, 4, 3, 2, 1, 0], [0, 1, 2, 3, 4, 5, 6, 7, 8, 10, 11, 13, 14, 16, 17, 18, 12, 9, 15, 19], [20, 19, 15, 12, 18, 17, 16, 14, 13, 11, 10, 9, 8, 7, 6, 5, 4, 3, 2, 1, 0], [0, 1, 2, 3, 4, 5, 6, 7, 8, 9, 10, 11, 13, 14, 16, 17, 18, 12, 15, 19, 20, 21], [22, 21, 20, 19, 15, 18, 17, 16, 14, 13, 12, 11, 10, 9, 8, 7, 6, 5, 4, 3, 2, 1, 0], [0, 1, 2, 3, 4, 5, 6, 7, 8, 9, 10, 11, 12, 13, 14, 16, 17, 18, 15, 19, 20, 21, 22, 23], [24, 23, 22, 21, 20, 19, 18, 17, 16, 15, 14, 13, 12, 11, 10, 9, 8, 7, 6, 5, 4, 3, 2, 1, 0], [0, 1, 2, 3, 4, 5, 6, 7, 8, 9, 10, 11, 12, 13, 14, 15, 16, 17, 18, 19, 20, 21, 22, 23, 24, 25]] [.op 0 ⟨some 128, (.fieldAddr 0 (.tmp 4)), none⟩,
 .op 1 ⟨some 129, (.fieldAddr 1 (.tmp 128)), none⟩,
 .op 2 ⟨some 130, (.load1 (.tmp 129)), none⟩,
 .op 4 ⟨some 132, (.fieldAddr 2 (.tmp 4)), none⟩,
 .op 5 ⟨some 133, (.load1 (.tmp 132)), none⟩,
 .op 7 ⟨some 135, (.fieldAddr 3 (.tmp 4)), none⟩,
 .op 8 ⟨some 136, (.load1 (.tmp 135)), none⟩,
 .op 10 ⟨some 138, (.fieldAddr 4 (.tmp 4)), none⟩,
 .op 11 ⟨some 139, (.load1 (.tmp 138)), none⟩,
 .op 13 ⟨some 141, (.fieldAddr 5 (.tmp 4)), none⟩,
 .op 14 ⟨some 142, (.load1 (.tmp 141)), none⟩,
 .op 3 ⟨some 131, (.call 69 [(.tmp 130)]), none⟩,
 .re 5 ⟨some 133, (.load1 (.tmp 132)), none⟩,
 .re 8 ⟨some 136, (.load1 (.tmp 135)), none⟩,
 .re 11 ⟨some 139, (.load1 (.tmp 138)), none⟩,
 .re 14 ⟨some 142, (.load1 (.tmp 141)), none⟩,
 .op 16 ⟨some 144, (.fieldAddr 0 (.tmp 4)), none⟩,
 .op 17 ⟨some 145, (.fieldAddr 1 (.tmp 144)), none⟩,
 .op 6 ⟨some 134, (.call 70 [(.tmp 133)]), none⟩,
 .re 8 ⟨some 136, (.load1 (.tmp 135)), none⟩,
 .re 11 ⟨some 139, (.load1 (.tmp 138)), none⟩,
 .re 14 ⟨some 142, (.load1 (.tmp 141)), none⟩,
 .op 9 ⟨some 137, (.call 71 [(.tmp 136)]), none⟩,
 .re 11 ⟨some 139, (.load1 (.tmp 138)), none⟩,
 .re 14 ⟨some 142, (.load1 (.tmp 141)), none⟩,
 .op 12 ⟨some 140, (.call 72 [(.tmp 139)]), none⟩,
 .re 14 ⟨some 142, (.load1 (.tmp 141)), none⟩,
 .op 15 ⟨some 143, (.call 72 [(.tmp 142)]), none⟩,
 .op 18 ⟨none, (.store 1 (.tmp 145) (.tmp 131)), none⟩,
 .op 19 ⟨some 146, (.fieldAddr 2 (.tmp 4)), none⟩,
 .op 20 ⟨none, (.store 1 (.tmp 146) (.tmp 134)), none⟩,
 .op 21 ⟨some 147, (.fieldAddr 3 (.tmp 4)), none⟩,
 .op 22 ⟨none, (.store 1 (.tmp 147) (.tmp 137)), none⟩,
 .op 23 ⟨some 148, (.fieldAddr 4 (.tmp 4)), none⟩,
 .op 24 ⟨none, (.store 1 (.tmp 148) (.tmp 140)), none⟩,
 .op 25 ⟨some 149, (.fieldAddr 5 (.tmp 4)), none⟩,
 .op 26 ⟨none, (.store 1 (.tmp 149) (.tmp 143)), none⟩])
 (.seq (.seq (.region [⟨some 150, (.loadN 6 (.tmp 4)), none⟩,
 ⟨none, (.store 6 (.tmp 2) (.tmp 150)), none⟩,
 ⟨some 3, (.move (.con (.int .i64 0))), none⟩])
 .ret)
 (.seq .skip
 (.seq (.region [⟨some 151, (.build [(.int .i64 0), .nilSlice, .nilSlice, .nilSlice, .nilSlice, .nilSlice] []), none⟩,
 ⟨none, (.store 6 (.tmp 2) (.tmp 151)), none⟩,
 ⟨some 3, (.move (.con (.int .i64 9))), none⟩])
 .ret))))))))))))))))))) 0
 (.seq .skip
 (.seq (.region [⟨some 151, (.build [(.int .i64 0), .nilSlice, .nilSlice, .nilSlice, .nilSlice, .nilSlice] []), none⟩,
 ⟨none, (.store 6 (.tmp 2) (.tmp 151)), none⟩,
 ⟨some 3, (.move (.con (.int .i64 9))), none⟩])
 .ret))))⟩
theorem F30_ok : cfn tab F30.body Try.f30 = some F30 := by kernel_rfl

/- milestone/milestoneref11.Same -/
def F32 : AFn := ⟨106, [.tmp 4],
 (.seq (.region [⟨some 2, (.box 6 (.tmp 0)), none⟩,
 ⟨some 3, (.box 6 (.tmp 1)), none⟩,
 ⟨some 4, (.move (.con (.bool false))), none⟩])
 (.seq (.seq (.region [⟨some 7, (.fieldAddr 0 (.tmp 2)), none⟩,
 ⟨some 8, (.loadN 2 (.tmp 7)), none⟩,
 ⟨some 9, (.fieldAddr 0 (.tmp 3)), none⟩,
 ⟨some 10, (.loadN 2 (.tmp 9)), none⟩,
 ⟨some 11, (.call 49 [(.tmp 8), (.tmp 10)]), none⟩,
 ⟨some 12, (.un .not (.tmp 11)), none⟩,
 ⟨some 13, (.move (.tmp 12)), none⟩,
 ⟨some 14, (.fieldAddr 2 (.tmp 2)), some (13, false)⟩,
 ⟨some 15, (.load1 (.tmp 14)), some (13, false)⟩,
 ⟨some 16, (.fieldAddr 2 (.tmp 3)), some (13, false)⟩,
 ⟨some 17, (.load1 (.tmp 16)), some (13, false)⟩,
 ⟨some 18, (.call 40 [(.tmp 15), (.tmp 17)]), some (13, false)⟩,
 ⟨some 19, (.un .not (.tmp 18)), some (13, false)⟩,
 ⟨some 20, (.pick (.tmp 13) (.con (.bool true)) (.tmp 19)), none⟩,
 ⟨some 21, (.move (.tmp 20)), none⟩,
 ⟨some 22, (.fieldAddr 3 (.tmp 2)), some (21, false)⟩,
 ⟨some 23, (.load1 (.tmp 22)), some (21, false)⟩,
 ⟨some 24, (.lenS (.tmp 23)), some (21, false)⟩,
 ⟨some 25, (.fieldAddr 3 (.tmp 3)), some (21, false)⟩,
 ⟨some 26, (.load1 (.tmp 25)), some (21, false)⟩,
 ⟨some 27, (.lenS (.tmp 26)), some (21, false)⟩,
 ⟨some 28, (.bin .neq .prim (.tmp 24) (.tmp 27)), some (21, false)⟩,
 ⟨some 29, (.pick (.tmp 21) (.con (.bool true)) (.tmp 28)), none⟩,
 ⟨some 30, (.move (.tmp 29)), none⟩,
 ⟨some 31, (.fieldAddr 4 (.tmp 2)), some (30, false)⟩,
 ⟨some 32, (.load1 (.tmp 31)), some (30, false)⟩,
 ⟨some 33, (.lenS (.tmp 32)), some (30, false)⟩,
 ⟨some 34, (.fieldAddr 4 (.tmp 3)), some (30, false)⟩,
 ⟨some 35, (.load1 (.tmp 34)), some (30, false)⟩,
 ⟨some 36, (.lenS (.tmp 35)), some (30, false)⟩,
 ⟨some 37, (.bin .neq .prim (.tmp 33) (.tmp 36)), some (30, false)⟩,
 ⟨some 38, (.pick (.tmp 30) (.con (.bool true)) (.tmp 37)), none⟩,
 ⟨some 39, (.move (.tmp 38)), none⟩,
 ⟨some 40, (.fieldAddr 5 (.tmp 2)), some (39, false)⟩,
 ⟨some 41, (.load1 (.tmp 40)), some (39, false)⟩,
 ⟨some 42, (.lenS (.tmp 41)), some (39, false)⟩,
 ⟨some 43, (.fieldAddr 5 (.tmp 3)), some (39, false)⟩,
 ⟨some 44, (.load1 (.tmp 43)), some (39, false)⟩,
 ⟨some 45, (.lenS (.tmp 44)), some (39, false)⟩,
 ⟨some 46, (.bin .neq .prim (.tmp 42) (.tmp 45)), some (39, false)⟩,
 ⟨some 47, (.pick (.tmp 39) (.con (.bool true)) (.tmp 46)), none⟩])
 (.cond (.tmp 47)
 (.seq (.region [⟨some 4, (.move (.con (.bool false))), none⟩])
 .ret)
 .skip))
 (.seq (.seq (.region [⟨some 5, (.move (.con (.int .i64 0))), none⟩])
 (.join [false, false, true, true, true] (.block 0 (.loop [false, false, true, true, false, true] [false, false, true, true, true]
 (.seq (.seq (.region [⟨some 48, (.move (.tmp 5)), none⟩,
 ⟨some 49, (.fieldAddr 3 (.tmp 2)), none⟩,
 ⟨some 50, (.load1 (.tmp 49)), none⟩,
 ⟨some 51, (.lenS (.tmp 50)), none⟩,
 ⟨some 52, (.bin .lss .prim (.tmp 48) (.tmp 51)), none⟩])
 (.cond (.tmp 52)
 .skip
 (.exit 0)))
 (.seq (.block 1 (.seq (.dregion [[], [0], [], [2, 0, 1], [1, 0, 2, 3], [], [5], [], [7, 5, 6], [6, 5, 7, 8], [8, 7, 5, 6, 9, 3, 2, 0, 1, 4]] [.op 0 ⟨some 55, (.fieldAddr 3 (.tmp 2)), none⟩,
 .op 1 ⟨some 56, (.load1 (.tmp 55)), none⟩,
 .op 2 ⟨some 57, (.move (.tmp 5)), none⟩,
 .op 3 ⟨some 58, (.indexAddrS 7 (.tmp 56) (.tmp 57)), none⟩,
 .op 4 ⟨some 59, (.loadN 7 (.tmp 58)), none⟩,
 .op 5 ⟨some 60, (.fieldAddr 3 (.tmp 3)), none⟩,
 .op 6 ⟨some 61, (.load1 (.tmp 60)), none⟩,
 .op 7 ⟨some 62, (.move (.tmp 5)), none⟩,
 .op 8 ⟨some 63, (.indexAddrS 7 (.tmp 61) (.tmp 62)), none⟩,
 .op 9 ⟨some 64, (.loadN 7 (.tmp 63)), none⟩,
 .op 10 ⟨some 65, (.bin .neq (.flat [.int, .int, .int, .int, .int, .int, .int]) (.tmp 59) (.tmp 64)), none⟩])
 (.cond (.tmp 65)
 (.seq (.region [⟨some 4, (.move (.con (.bool false))), none⟩])
 .ret)
 .skip)))
 (.region [⟨some 53, (.move (.tmp 5)), none⟩,
 ⟨some 54, (.bin .add .prim (.tmp 53) (.con (.int .i64 1))), none⟩,
 ⟨some 5, (.move (.tmp 54)), none⟩])))))))
 (.seq (.seq (.region [⟨some 6, (.move (.con (.int .i64 0))), none⟩])
 (.join [false, false, false, false, true] (.block 2 (.loop [false, false, true, true, false, false, true] [false, false, false, false, true]
 (.seq (.seq (.region [⟨some 66, (.move (.tmp 6)), none⟩,
 ⟨some 67, (.fieldAddr 4 (.tmp 2)), none⟩,
 ⟨some 68, (.load1 (.tmp 67)), none⟩,
 ⟨some 69, (.lenS (.tmp 68)), none⟩,
 ⟨some 70, (.bin .lss .prim (.tmp 66) (.tmp 69)), none⟩])
 (.cond (.tmp 70)
 .skip
 (.exit 2)))
 (.seq (.block 3 (.seq (.dregion [[], [0], [], [2, 0, 1], [1, 0, 2, 3], [], [5], [], [7, 5, 6], [6, 5, 7, 8], [8, 7, 5, 6, 9, 3, 2, 0, 1, 4], [4, 1, 0, 2, 3, 9, 6, 5, 7, 8, 10], [10, 8, 7, 5, 6, 9, 3, 2, 0, 1, 4, 11], [11, 4, 1, 0, 2, 3, 9, 6, 5, 7, 8, 10, 12], [11, 4, 1, 0, 2, 3, 9, 6, 5, 7, 8, 10, 12], [12, 10, 8, 7, 5, 6, 9, 3, 2, 0, 1, 4, 11, 14], [14, 11, 4, 1, 0, 2, 3, 9, 6, 5, 7, 8, 10, 12, 15], [15, 14, 16, 12, 10, 8, 7, 5, 6, 9, 3, 2, 0, 1, 4, 11, 13], [13, 16, 14, 15, 17, 11, 4, 1, 0, 2, 3, 9, 6, 5, 7, 8, 10, 12], [12, 10, 8, 7, 5, 6, 9, 3, 2, 0, 1, 4, 11, 17, 15, 14, 16, 13, 18], [18, 13, 16, 14, 15, 17, 11, 4, 1, 0, 2, 3, 9, 6, 5, 7, 8, 10, 12, 19], [19, 12, 10, 8, 7, 5, 6, 9, 3, 2, 0, 1, 4, 11, 17, 15, 14, 16, 13, 18, 20], [18, 13, 16, 14, 15, 17, 11, 4, 1, 0, 2, 3, 9, 6, 5, 7, 8, 10, 12, 19], [22, 20, 18, 13, 16, 14, 15, 17, 11, 4, 1, 0, 2, 3, 9, 6, 5, 7, 8, 10, 12, 19, 21], [21, 19, 12, 10, 8, 7, 5, 6, 9, 3, 2, 0, 1, 4, 11, 17, 15, 14, 16, 13, 18, 20, 22, 23], [18, 13, 16, 14, 15, 17, 11, 4, 1, 0, 2, 3, 9, 6, 5, 7, 8, 10, 12, 19], [19, 12, 10, 8, 7, 5, 6, 9, 3, 2, 0, 1, 4, 11, 17, 15, 14, 16, 13, 18, 25], [18, 13, 16, 14, 15, 17, 11, 4, 1, 0, 2, 3, 9, 6, 5, 7, 8, 10, 12, 19], [27, 25, 18, 13, 16, 14, 15, 17, 11, 4, 1, 0, 2, 3, 9, 6, 5, 7, 8, 10, 12, 19, 26], [26, 19, 12, 10, 8, 7, 5, 6, 9, 3, 2, 0, 1, 4, 11, 17, 15, 14, 16, 13, 18, 25, 27, 28], [28, 27, 25, 26, 29, 23, 22, 20, 18, 13, 16, 14, 15, 17, 11, 4, 1, 0, 2, 3, 9, 6, 5, 7, 8, 10, 12, 19, 21, 24], [24, 21, 19, 12, 10, 8, 7, 5, 6, 9, 3, 2, 0, 1, 4, 11, 17, 15, 14, 16, 13, 18, 20, 22, 23, 29, 26, 25, 27, 28, 30], [30, 28, 27, 25, 26, 29, 23, 22, 20, 21, 24, 31, 18, 13, 16, 14, 15, 17, 11, 4, 1, 0, 2, 3, 9, 6, 5, 7, 8, 10, 12, 19]] [.op 0 ⟨some 73, (.fieldAddr 4 (.tmp 2)), none⟩,
 .op 1 ⟨some 74, (.load1 (.tmp 73)), none⟩,
 .op 2 ⟨some 75, (.move (.tmp 6)), none⟩,
 .op 3 ⟨some 76, (.indexAddrS 1 (.tmp 74) (.tmp 75)), none⟩,
 .op 4 ⟨some 77, (.load1 (.tmp 76)), none⟩,
 .op 5 ⟨some 78, (.fieldAddr 4 (.tmp 3)), none⟩,
 .op 6 ⟨some 79, (.load1 (.tmp 78)), none⟩,
 .op 7 ⟨some 80, (.move (.tmp 6)), none⟩,
 .op 8 ⟨some 81, (.indexAddrS 1 (.tmp 79) (.tmp 80)), none⟩,
 .op 9 ⟨some 82, (.load1 (.tmp 81)), none⟩,
 .op 10 ⟨some 83, (.call 40 [(.tmp 77), (.tmp 82)]), none⟩,
 .op 11 ⟨some 84, (.un .not (.tmp 83)), none⟩,
 .op 12 ⟨some 85, (.move (.tmp 84)), none⟩,
 .op 13 ⟨some 86, (.move (.tmp 6)), some (85, false)⟩,
 .op 14 ⟨some 87, (.fieldAddr 5 (.tmp 2)), some (85, false)⟩,
 .op 15 ⟨some 88, (.load1 (.tmp 87)), some (85, false)⟩,
 .op 16 ⟨some 89, (.lenS (.tmp 88)), some (85, false)⟩,
 .op 17 ⟨some 90, (.bin .geq .prim (.tmp 86) (.tmp 89)), some (85, false)⟩,
 .op 18 ⟨some 91, (.pick (.tmp 85) (.con (.bool true)) (.tmp 90)), none⟩,
 .op 19 ⟨some 92, (.move (.tmp 91)), none⟩,
 .op 20 ⟨some 93, (.fieldAddr 5 (.tmp 2)), some (92, false)⟩,
 .op 21 ⟨some 94, (.load1 (.tmp 93)), some (92, false)⟩,
 .op 22 ⟨some 95, (.move (.tmp 6)), some (92, false)⟩,
 .op 23 ⟨some 96, (.indexAddrS 1 (.tmp 94) (.tmp 95)), some (92, false)⟩,
 .op 24 ⟨some 97, (.load1 (.tmp 96)), some (92, false)⟩,
 .op 25 ⟨some 98, (.fieldAddr 5 (.tmp 3)), some (92, false)⟩,
 .op 26 ⟨some 99, (.load1 (.tmp 98)), some (92, false)⟩,
 .op 27 ⟨some 100, (.move (.tmp 6)), some (92, false)⟩,
 .op 28 ⟨some 101, (.indexAddrS 1 (.tmp 99) (.tmp 100)), some (92, false)⟩,
 .op 29 ⟨some 102, (.load1 (.tmp 101)), some (92, false)⟩,
 .op 30 ⟨some 103, (.call 40 [(.tmp 97), (.tmp 102)]), some (92, false)⟩,
 .op 31 ⟨some 104, (.un .not (.tmp 103)), some (92, false)⟩,
 .op 32 ⟨some 105, (.pick (.tmp 92) (.con (.bool true)) (.tmp 104)), none⟩])
 (.cond (.tmp 105)
 (.seq (.region [⟨some 4, (.move (.con (.bool false))), none⟩])
 .ret)
 .skip)))
 (.region [⟨some 71, (.move (.tmp 6)), none⟩,
 ⟨some 72, (.bin .add .prim (.tmp 71) (.con (.int .i64 1))), none⟩,
 ⟨some 6, (.move (.tmp 72)), none⟩])))))))
 (.seq (.region [⟨some 4, (.move (.con (.bool true))), none⟩])
 .ret)))))⟩
theorem F32_ok : cfn tab F32.body Try.f32 = some F32 := by kernel_rfl

/- milestone/milestonelaw12.within -/
def F33 : AFn := ⟨15, [.tmp 4],
 (.seq (.region [⟨some 4, (.move (.con (.int .i64 0))), none⟩])
 (.seq (.region [⟨some 6, (.move (.tmp 0)), none⟩,
 ⟨some 7, (.move (.tmp 1)), none⟩,
 ⟨some 8, (.bin .rem .prim (.tmp 6) (.tmp 7)), none⟩,
 ⟨some 5, (.move (.tmp 8)), none⟩])
 (.seq (.seq (.region [⟨some 9, (.move (.tmp 5)), none⟩,
 ⟨some 10, (.bin .lss .prim (.tmp 9) (.con (.int .i64 0))), none⟩])
 (.join [false, false, false, false, true, true] (.cond (.tmp 10)
 (.region [⟨some 11, (.move (.tmp 5)), none⟩,
 ⟨some 12, (.move (.tmp 1)), none⟩,
 ⟨some 13, (.bin .add .prim (.tmp 11) (.tmp 12)), none⟩,
 ⟨some 5, (.move (.tmp 13)), none⟩])
 .skip)))
 (.seq (.region [⟨some 14, (.move (.tmp 5)), none⟩,
 ⟨some 4, (.move (.tmp 14)), none⟩])
 .ret))))⟩
theorem F33_ok : cfn tab F33.body Try.f33 = some F33 := by kernel_rfl

/- milestone/milestoneref11.Check -/
def F35 : AFn := ⟨57, [.tmp 2],
 (.seq (.region [⟨some 1, (.box 6 (.tmp 0)), none⟩,
 ⟨some 2, (.move (.con (.bool false))), none⟩])
 (.seq (.seq (.region [⟨some 4, (.fieldAddr 0 (.tmp 1)), none⟩,
 ⟨some 5, (.loadN 2 (.tmp 4)), none⟩,
 ⟨some 6, (.call 76 [(.tmp 5)]), none⟩,
 ⟨some 7, (.un .not (.tmp 6)), none⟩,
 ⟨some 8, (.move (.tmp 7)), none⟩,
 ⟨some 9, (.loadN 6 (.tmp 1)), some (8, false)⟩,
 ⟨some 10, (.call 77 [(.tmp 9)]), some (8, false)⟩,
 ⟨some 11, (.un .not (.tmp 10)), some (8, false)⟩,
 ⟨some 12, (.pick (.tmp 8) (.con (.bool true)) (.tmp 11)), none⟩,
 ⟨some 13, (.move (.tmp 12)), none⟩,
 ⟨some 14, (.fieldAddr 3 (.tmp 1)), some (13, false)⟩,
 ⟨some 15, (.load1 (.tmp 14)), some (13, false)⟩,
 ⟨some 16, (.lenS (.tmp 15)), some (13, false)⟩,
 ⟨some 17, (.bin .gtr .prim (.tmp 16) (.con (.int .i64 300000))), some (13, false)⟩,
 ⟨some 18, (.pick (.tmp 13) (.con (.bool true)) (.tmp 17)), none⟩,
 ⟨some 19, (.move (.tmp 18)), none⟩,
 ⟨some 20, (.fieldAddr 3 (.tmp 1)), some (19, false)⟩,
 ⟨some 21, (.load1 (.tmp 20)), some (19, false)⟩,
 ⟨some 22, (.lenS (.tmp 21)), some (19, false)⟩,
 ⟨some 23, (.bin .gtr .prim (.tmp 22) (.con (.int .i64 0))), some (19, false)⟩,
 ⟨some 24, (.move (.tmp 23)), some (19, false)⟩,
 ⟨some 25, (.loadN 6 (.tmp 1)), some (24, true)⟩,
 ⟨some 26, (.call 78 [(.tmp 25)]), some (24, true)⟩,
 ⟨some 27, (.bin .eql .nilS (.tmp 26) (.con .nilSlice)), some (24, true)⟩,
 ⟨some 28, (.pick (.tmp 24) (.tmp 27) (.con (.bool false))), some (19, false)⟩,
 ⟨some 29, (.pick (.tmp 19) (.con (.bool true)) (.tmp 28)), none⟩])
 (.cond (.tmp 29)
 (.seq (.region [⟨some 2, (.move (.con (.bool false))), none⟩])
 .ret)
 .skip))
 (.seq (.seq (.region [⟨some 3, (.move (.con (.int .i64 0))), none⟩])
 (.join [false, false, true] (.block 0 (.loop [false, true, false, true] [false, false, true]
 (.seq (.seq (.region [⟨some 30, (.move (.tmp 3)), none⟩,
 ⟨some 31, (.fieldAddr 0 (.tmp 1)), none⟩,
 ⟨some 32, (.fieldAddr 0 (.tmp 31)), none⟩,
 ⟨some 33, (.load1 (.tmp 32)), none⟩,
 ⟨some 34, (.bin .lss .prim (.tmp 30) (.tmp 33)), none⟩])
 (.cond (.tmp 34)
 .skip
 (.exit 0)))
 (.seq (.block 1 (.seq (.dregion [[], [], [], [2], [], [4, 2, 3], [3, 2, 4, 5], [5, 4, 2, 3, 6, 1, 0], [0, 1, 6, 3, 2, 4, 5, 7], [7, 5, 4, 2, 3, 6, 1, 0, 8], [8, 0, 1, 6, 3, 2, 4, 5, 7, 9], [8, 0, 1, 6, 3, 2, 4, 5, 7, 9], [8, 0, 1, 6, 3, 2, 4, 5, 7, 9], [9, 7, 5, 4, 2, 3, 6, 1, 0, 8, 12], [8, 0, 1, 6, 3, 2, 4, 5, 7, 9], [14, 12, 8, 0, 1, 6, 3, 2, 4, 5, 7, 9, 13], [13, 9, 7, 5, 4, 2, 3, 6, 1, 0, 8, 12, 14, 15], [15, 14, 12, 13, 16, 11, 9, 7, 5, 4, 2, 3, 6, 1, 0, 8, 10], [10, 8, 0, 1, 6, 3, 2, 4, 5, 7, 9, 11, 16, 13, 12, 14, 15, 17], [17, 15, 14, 12, 13, 16, 11, 10, 18, 8, 0, 1, 6, 3, 2, 4, 5, 7, 9]] [.op 0 ⟨some 37, (.loadN 6 (.tmp 1)), none⟩,
 .op 1 ⟨some 38, (.move (.tmp 3)), none⟩,
 .op 2 ⟨some 39, (.fieldAddr 4 (.tmp 1)), none⟩,
 .op 3 ⟨some 40, (.load1 (.tmp 39)), none⟩,
 .op 4 ⟨some 41, (.move (.tmp 3)), none⟩,
 .op 5 ⟨some 42, (.indexAddrS 1 (.tmp 40) (.tmp 41)), none⟩,
 .op 6 ⟨some 43, (.load1 (.tmp 42)), none⟩,
 .op 7 ⟨some 44, (.call 79 [(.tmp 37), (.tmp 38), (.tmp 43), (.con (.bool true))]), none⟩,
 .op 8 ⟨some 45, (.un .not (.tmp 44)), none⟩,
 .op 9 ⟨some 46, (.move (.tmp 45)), none⟩,
 .op 10 ⟨some 47, (.loadN 6 (.tmp 1)), some (46, false)⟩,
 .op 11 ⟨some 48, (.move (.tmp 3)), some (46, false)⟩,
 .op 12 ⟨some 49, (.fieldAddr 5 (.tmp 1)), some (46, false)⟩,
 .op 13 ⟨some 50, (.load1 (.tmp 49)), some (46, false)⟩,
 .op 14 ⟨some 51, (.move (.tmp 3)), some (46, false)⟩,
 .op 15 ⟨some 52, (.indexAddrS 1 (.tmp 50) (.tmp 51)), some (46, false)⟩,
 .op 16 ⟨some 53, (.load1 (.tmp 52)), some (46, false)⟩,
 .op 17 ⟨some 54, (.call 79 [(.tmp 47), (.tmp 48), (.tmp 53), (.con (.bool false))]), some (46, false)⟩,
 .op 18 ⟨some 55, (.un .not (.tmp 54)), some (46, false)⟩,
 .op 19 ⟨some 56, (.pick (.tmp 46) (.con (.bool true)) (.tmp 55)), none⟩])
 (.cond (.tmp 56)
 (.seq (.region [⟨some 2, (.move (.con (.bool false))), none⟩])
 .ret)
 .skip)))
 (.region [⟨some 35, (.move (.tmp 3)), none⟩,
 ⟨some 36, (.bin .add .prim (.tmp 35) (.con (.int .i64 1))), none⟩,
 ⟨some 3, (.move (.tmp 36)), none⟩])))))))
 (.seq (.region [⟨some 2, (.move (.con (.bool true))), none⟩])
 .ret))))⟩
theorem F35_ok : cfn tab F35.body Try.f35 = some F35 := by kernel_rfl

/- milestone/milestonelaw11.Spoilt -/
def F36 : AFn := ⟨351, [.cell 6 true 8],
 (.seq (.region [⟨some 4, (.box 6 (.tmp 0)), none⟩,
 ⟨some 8, (.alloc [(.int .i64 0), .nilSlice, .nilSlice, .nilSlice, .nilSlice, .nilSlice]), none⟩])
 (.seq (.region [⟨some 13, (.buildSlice [] 0 []), none⟩,
 ⟨some 14, (.fieldAddr 2 (.tmp 4)), none⟩,
 ⟨some 15, (.load1 (.tmp 14)), none⟩,
 ⟨some 16, (.append 1 8 (.tmp 13) (.tmp 15)), none⟩,
 ⟨some 17, (.fieldAddr 2 (.tmp 4)), none⟩,
 ⟨none, (.store 1 (.tmp 17) (.tmp 16)), none⟩])
 (.seq (.region [⟨some 18, (.buildSlice [] 0 []), none⟩,
 ⟨some 19, (.fieldAddr 3 (.tmp 4)), none⟩,
 ⟨some 20, (.load1 (.tmp 19)), none⟩,
 ⟨some 21, (.append 7 56 (.tmp 18) (.tmp 20)), none⟩,
 ⟨some 22, (.fieldAddr 3 (.tmp 4)), none⟩,
 ⟨none, (.store 1 (.tmp 22) (.tmp 21)), none⟩])
 (.seq (.dregion [[], [0], [0, 1], [], [3], [1, 0, 2, 3, 4], [4, 3, 2, 1, 0], [5, 0, 1, 2, 3, 4, 6], [7, 6, 5, 4, 3, 2, 1, 0], [0, 1, 2, 3, 4, 5, 6, 7, 8]] [.op 0 ⟨some 23, (.fieldAddr 4 (.tmp 4)), none⟩,
 .op 1 ⟨some 24, (.load1 (.tmp 23)), none⟩,
 .op 3 ⟨some 26, (.fieldAddr 5 (.tmp 4)), none⟩,
 .op 4 ⟨some 27, (.load1 (.tmp 26)), none⟩,
 .op 2 ⟨some 25, (.call 80 [(.tmp 24)]), none⟩,
 .re 4 ⟨some 27, (.load1 (.tmp 26)), none⟩,
 .op 6 ⟨some 29, (.fieldAddr 4 (.tmp 4)), none⟩,
 .op 5 ⟨some 28, (.call 80 [(.tmp 27)]), none⟩,
 .op 7 ⟨none, (.store 1 (.tmp 29) (.tmp 25)), none⟩,
 .op 8 ⟨some 30, (.fieldAddr 5 (.tmp 4)), none⟩,
 .op 9 ⟨none, (.store 1 (.tmp 30) (.tmp 28)), none⟩])
 (.seq (.region [⟨some 31, (.buildSlice [] 0 []), none⟩,
 ⟨some 32, (.fieldAddr 0 (.tmp 4)), none⟩,
 ⟨some 33, (.fieldAddr 1 (.tmp 32)), none⟩,
 ⟨some 34, (.load1 (.tmp 33)), none⟩,
 ⟨some 35, (.append 4 32 (.tmp 31) (.tmp 34)), none⟩,
 ⟨some 36, (.fieldAddr 0 (.tmp 4)), none⟩,
 ⟨some 37, (.fieldAddr 1 (.tmp 36)), none⟩,
 ⟨none, (.store 1 (.tmp 37) (.tmp 35)), none⟩])
 (.seq (.region [⟨some 38, (.move (.tmp 2)), none⟩,
 ⟨some 39, (.fieldAddr 2 (.tmp 4)), none⟩,
 ⟨some 40, (.load1 (.tmp 39)), none⟩,
 ⟨some 41, (.lenS (.tmp 40)), none⟩,
 ⟨some 42, (.call 50 [(.tmp 38), (.tmp 41)]), none⟩,
 ⟨some 9, (.move (.tmp 42)), none⟩])
 (.seq (.region [⟨some 10, (.move (.con (.int .i64 0))), none⟩])
 (.seq (.seq (.region [⟨some 43, (.fieldAddr 3 (.tmp 4)), none⟩,
 ⟨some 44, (.load1 (.tmp 43)), none⟩,
 ⟨some 45, (.lenS (.tmp 44)), none⟩,
 ⟨some 46, (.bin .gtr .prim (.tmp 45) (.con (.int .i64 0))), none⟩])
 (.join [false, true, true, true, true, false, false, false, true, true, true] (.cond (.tmp 46)
 (.region [⟨some 47, (.move (.tmp 2)), none⟩,
 ⟨some 48, (.fieldAddr 3 (.tmp 4)), none⟩,
 ⟨some 49, (.load1 (.tmp 48)), none⟩,
 ⟨some 50, (.lenS (.tmp 49)), none⟩,
 ⟨some 51, (.call 50 [(.tmp 47), (.tmp 50)]), none⟩,
 ⟨some 10, (.move (.tmp 51)), none⟩])
 .skip)))
 (.seq (.region [⟨some 52, (.fieldAddr 3 (.tmp 4)), none⟩,
 ⟨some 53, (.load1 (.tmp 52)), none⟩,
 ⟨some 54, (.lenS (.tmp 53)), none⟩,
 ⟨some 55, (.bin .gtr .prim (.tmp 54) (.con (.int .i64 0))), none⟩,
 ⟨some 11, (.move (.tmp 55)), none⟩])
 (.seq (.seq (.region [⟨some 56, (.move (.tmp 1)), none⟩,
 ⟨some 57, (.call 50 [(.tmp 56), (.con (.int .i64 16))]), none⟩,
 ⟨some 12, (.move (.tmp 57)), none⟩])
 (.block 0 (.seq (.region [⟨some 59, (.move (.tmp 12)), none⟩,
 ⟨some 60, (.bin .eql .prim (.tmp 59) (.con (.int .i64 0))), none⟩,
 ⟨some 58, (.move (.tmp 60)), none⟩])
 (.cond (.tmp 58)
 (.dregion [[], [0], [], [], [], [4], [4, 5], [5, 4, 6], [6, 4, 5, 7, 3], [3, 7, 5, 4, 6, 8], [9, 8, 7, 6, 5, 4, 3, 2, 0, 1], [1, 0, 2, 3, 4, 5, 6, 7, 8, 9, 10]] [.op 0 ⟨some 61, (.fieldAddr 2 (.tmp 4)), none⟩,
 .op 1 ⟨some 62, (.load1 (.tmp 61)), none⟩,
 .op 2 ⟨some 63, (.move (.tmp 9)), none⟩,
 .op 3 ⟨some 64, (.move (.tmp 3)), none⟩,
 .op 4 ⟨some 65, (.fieldAddr 2 (.tmp 4)), none⟩,
 .op 5 ⟨some 66, (.load1 (.tmp 65)), none⟩,
 .op 6 ⟨some 67, (.lenS (.tmp 66)), none⟩,
 .op 7 ⟨some 68, (.bin .add .prim (.tmp 67) (.con (.int .i64 2))), none⟩,
 .op 8 ⟨some 69, (.call 50 [(.tmp 64), (.tmp 68)]), none⟩,
 .re 1 ⟨some 62, (.load1 (.tmp 61)), none⟩,
 .op 9 ⟨some 70, (.bin .sub .prim (.tmp 69) (.con (.int .i64 1))), none⟩,
 .op 10 ⟨some 71, (.indexAddrS 1 (.tmp 62) (.tmp 63)), none⟩,
 .op 11 ⟨none, (.store 1 (.tmp 71) (.tmp 70)), none⟩])
 (.seq (.region [⟨some 73, (.move (.tmp 12)), none⟩,
 ⟨some 74, (.bin .eql .prim (.tmp 73) (.con (.int .i64 1))), none⟩,
 ⟨some 75, (.move (.tmp 74)), none⟩,
 ⟨some 76, (.move (.tmp 11)), some (75, true)⟩,
 ⟨some 77, (.pick (.tmp 75) (.tmp 76) (.con (.bool false))), none⟩,
 ⟨some 72, (.move (.tmp 77)), none⟩])
 (.cond (.tmp 72)
 (.dregion [[], [0], [], [], [], [4], [4, 5], [5, 4, 6], [6, 4, 5, 7, 3], [8, 7, 6, 5, 4, 3, 2, 0, 1], [1, 0, 2, 3, 4, 5, 6, 7, 8, 9], [9, 8, 7, 6, 5, 4, 3, 2, 0, 1, 10]] [.op 0 ⟨some 78, (.fieldAddr 3 (.tmp 4)), none⟩,
 .op 1 ⟨some 79, (.load1 (.tmp 78)), none⟩,
 .op 2 ⟨some 80, (.move (.tmp 10)), none⟩,
 .op 3 ⟨some 81, (.move (.tmp 3)), none⟩,
 .op 4 ⟨some 82, (.fieldAddr 2 (.tmp 4)), none⟩,
 .op 5 ⟨some 83, (.load1 (.tmp 82)), none⟩,
 .op 6 ⟨some 84, (.lenS (.tmp 83)), none⟩,
 .op 7 ⟨some 85, (.bin .add .prim (.tmp 84) (.con (.int .i64 1))), none⟩,
 .op 8 ⟨some 86, (.call 50 [(.tmp 81), (.tmp 85)]), none⟩,
 .re 1 ⟨some 79, (.load1 (.tmp 78)), none⟩,
 .op 9 ⟨some 87, (.indexAddrS 7 (.tmp 79) (.tmp 80)), none⟩,
 .op 10 ⟨some 88, (.fieldAddr 0 (.tmp 87)), none⟩,
 .op 11 ⟨none, (.store 1 (.tmp 88) (.tmp 86)), none⟩])
 (.seq (.region [⟨some 90, (.move (.tmp 12)), none⟩,
 ⟨some 91, (.bin .eql .prim (.tmp 90) (.con (.int .i64 2))), none⟩,
 ⟨some 92, (.move (.tmp 91)), none⟩,
 ⟨some 93, (.move (.tmp 11)), some (92, true)⟩,
 ⟨some 94, (.pick (.tmp 92) (.tmp 93) (.con (.bool false))), none⟩,
 ⟨some 89, (.move (.tmp 94)), none⟩])
 (.cond (.tmp 89)
 (.dregion [[], [0], [], [], [], [4], [4, 5], [5, 4, 6], [6, 4, 5, 7, 3], [3, 7, 5, 4, 6, 8], [9, 8, 7, 6, 5, 4, 3, 2, 0, 1], [1, 0, 2, 3, 4, 5, 6, 7, 8, 9, 10], [10, 9, 8, 7, 6, 5, 4, 3, 2, 0, 1, 11]] [.op 0 ⟨some 95, (.fieldAddr 3 (.tmp 4)), none⟩,
 .op 1 ⟨some 96, (.load1 (.tmp 95)), none⟩,
 .op 2 ⟨some 97, (.move (.tmp 10)), none⟩,
 .op 3 ⟨some 98, (.move (.tmp 3)), none⟩,
 .op 4 ⟨some 99, (.fieldAddr 2 (.tmp 4)), none⟩,
 .op 5 ⟨some 100, (.load1 (.tmp 99)), none⟩,
 .op 6 ⟨some 101, (.lenS (.tmp 100)), none⟩,
 .op 7 ⟨some 102, (.bin .add .prim (.tmp 101) (.con (.int .i64 1))), none⟩,
 .op 8 ⟨some 103, (.call 50 [(.tmp 98), (.tmp 102)]), none⟩,
 .re 1 ⟨some 96, (.load1 (.tmp 95)), none⟩,
 .op 9 ⟨some 104, (.bin .sub .prim (.tmp 103) (.con (.int .i64 1))), none⟩,
 .op 10 ⟨some 105, (.indexAddrS 7 (.tmp 96) (.tmp 97)), none⟩,
 .op 11 ⟨some 106, (.fieldAddr 1 (.tmp 105)), none⟩,
 .op 12 ⟨none, (.store 1 (.tmp 106) (.tmp 104)), none⟩])
 (.seq (.region [⟨some 108, (.move (.tmp 12)), none⟩,
 ⟨some 109, (.bin .eql .prim (.tmp 108) (.con (.int .i64 3))), none⟩,
 ⟨some 110, (.move (.tmp 109)), none⟩,
 ⟨some 111, (.move (.tmp 11)), some (110, true)⟩,
 ⟨some 112, (.pick (.tmp 110) (.tmp 111) (.con (.bool false))), none⟩,
 ⟨some 107, (.move (.tmp 112)), none⟩])
 (.cond (.tmp 107)
 (.dregion [[], [0], [], [], [3], [3, 4], [5, 4, 3, 2, 0, 1], [1, 0, 2, 3, 4, 5, 6], [6, 5, 4, 3, 2, 0, 1, 7]] [.op 0 ⟨some 113, (.fieldAddr 3 (.tmp 4)), none⟩,
 .op 1 ⟨some 114, (.load1 (.tmp 113)), none⟩,
 .op 2 ⟨some 115, (.move (.tmp 10)), none⟩,
 .op 3 ⟨some 116, (.move (.tmp 3)), none⟩,
 .op 4 ⟨some 117, (.call 50 [(.tmp 116), (.con (.int .i64 7))]), none⟩,
 .re 1 ⟨some 114, (.load1 (.tmp 113)), none⟩,
 .op 5 ⟨some 118, (.bin .sub .prim (.tmp 117) (.con (.int .i64 1))), none⟩,
 .op 6 ⟨some 119, (.indexAddrS 7 (.tmp 114) (.tmp 115)), none⟩,
 .op 7 ⟨some 120, (.fieldAddr 2 (.tmp 119)), none⟩,
 .op 8 ⟨none, (.store 1 (.tmp 120) (.tmp 118)), none⟩])
 (.seq (.region [⟨some 122, (.move (.tmp 12)), none⟩,
 ⟨some 123, (.bin .eql .prim (.tmp 122) (.con (.int .i64 4))), none⟩,
 ⟨some 124, (.move (.tmp 123)), none⟩,
 ⟨some 125, (.move (.tmp 11)), some (124, true)⟩,
 ⟨some 126, (.pick (.tmp 124) (.tmp 125) (.con (.bool false))), none⟩,
 ⟨some 121, (.move (.tmp 126)), none⟩])
 (.cond (.tmp 121)
 (.dregion [[], [0], [], [], [], [4], [], [6, 4, 5], [5, 4, 6, 7], [7, 6, 4, 5, 8], [8, 5, 4, 6, 7, 9], [9, 7, 6, 4, 5, 8, 10, 3], [], [12], [12, 13, 3, 10, 8, 5, 4, 6, 7, 9, 11], [11, 9, 7, 6, 4, 5, 8, 10, 3, 13, 12, 14], [15, 14, 13, 12, 11, 10, 9, 8, 7, 6, 5, 4, 3, 2, 0, 1], [1, 0, 2, 3, 4, 5, 6, 7, 8, 9, 10, 11, 12, 13, 14, 15, 16], [16, 15, 14, 13, 12, 11, 10, 9, 8, 7, 6, 5, 4, 3, 2, 0, 1, 17]] [.op 0 ⟨some 127, (.fieldAddr 3 (.tmp 4)), none⟩,
 .op 1 ⟨some 128, (.load1 (.tmp 127)), none⟩,
 .op 2 ⟨some 129, (.move (.tmp 10)), none⟩,
 .op 3 ⟨some 130, (.move (.tmp 3)), none⟩,
 .op 4 ⟨some 131, (.fieldAddr 3 (.tmp 4)), none⟩,
 .op 5 ⟨some 132, (.load1 (.tmp 131)), none⟩,
 .op 6 ⟨some 133, (.move (.tmp 10)), none⟩,
 .op 7 ⟨some 134, (.indexAddrS 7 (.tmp 132) (.tmp 133)), none⟩,
 .op 8 ⟨some 135, (.fieldAddr 3 (.tmp 134)), none⟩,
 .op 9 ⟨some 136, (.load1 (.tmp 135)), none⟩,
 .op 10 ⟨some 137, (.bin .add .prim (.tmp 136) (.con (.int .i64 1))), none⟩,
 .op 11 ⟨some 138, (.buildSlice [(.int .i64 0), (.int .i64 0), (.int .i64 0), (.int .i64 0)] 4 [(0, 1, (.con (.int .i64 0))), (1, 1, (.tmp 130)), (2, 1, (.tmp 137)), (3, 1, (.con (.int .i64 (-1))))]), none⟩,
 .op 12 ⟨some 139, (.move (.tmp 3)), none⟩,
 .op 13 ⟨some 140, (.call 50 [(.tmp 139), (.con (.int .i64 4))]), none⟩,
 .re 1 ⟨some 128, (.load1 (.tmp 127)), none⟩,
 .re 5 ⟨some 132, (.load1 (.tmp 131)), none⟩,
 .re 9 ⟨some 136, (.load1 (.tmp 135)), none⟩,
 .op 14 ⟨some 141, (.indexAddrS 1 (.tmp 138) (.tmp 140)), none⟩,
 .op 15 ⟨some 142, (.load1 (.tmp 141)), none⟩,
 .op 16 ⟨some 143, (.indexAddrS 7 (.tmp 128) (.tmp 129)), none⟩,
 .op 17 ⟨some 144, (.fieldAddr 3 (.tmp 143)), none⟩,
 .op 18 ⟨none, (.store 1 (.tmp 144) (.tmp 142)), none⟩])
 (.seq (.region [⟨some 146, (.move (.tmp 12)), none⟩,
 ⟨some 147, (.bin .eql .prim (.tmp 146) (.con (.int .i64 5))), none⟩,
 ⟨some 148, (.move (.tmp 147)), none⟩,
 ⟨some 149, (.move (.tmp 11)), some (148, true)⟩,
 ⟨some 150, (.pick (.tmp 148) (.tmp 149) (.con (.bool false))), none⟩,
 ⟨some 145, (.move (.tmp 150)), none⟩])
 (.cond (.tmp 145)
 (.dregion [[], [0], [], [], [], [4], [4, 5], [5, 4, 6], [6, 4, 5, 7], [7, 5, 4, 6, 8, 3], [3, 8, 6, 4, 5, 7, 9], [10, 9, 8, 7, 6, 5, 4, 3, 2, 0, 1], [1, 0, 2, 3, 4, 5, 6, 7, 8, 9, 10, 11], [11, 10, 9, 8, 7, 6, 5, 4, 3, 2, 0, 1, 12]] [.op 0 ⟨some 151, (.fieldAddr 3 (.tmp 4)), none⟩,
 .op 1 ⟨some 152, (.load1 (.tmp 151)), none⟩,
 .op 2 ⟨some 153, (.move (.tmp 10)), none⟩,
 .op 3 ⟨some 154, (.move (.tmp 3)), none⟩,
 .op 4 ⟨some 155, (.fieldAddr 0 (.tmp 4)), none⟩,
 .op 5 ⟨some 156, (.fieldAddr 1 (.tmp 155)), none⟩,
 .op 6 ⟨some 157, (.load1 (.tmp 156)), none⟩,
 .op 7 ⟨some 158, (.lenS (.tmp 157)), none⟩,
 .op 8 ⟨some 159, (.bin .add .prim (.tmp 158) (.con (.int .i64 2))), none⟩,
 .op 9 ⟨some 160, (.call 50 [(.tmp 154), (.tmp 159)]), none⟩,
 .re 1 ⟨some 152, (.load1 (.tmp 151)), none⟩,
 .op 10 ⟨some 161, (.bin .sub .prim (.tmp 160) (.con (.int .i64 1))), none⟩,
 .op 11 ⟨some 162, (.indexAddrS 7 (.tmp 152) (.tmp 153)), none⟩,
 .op 12 ⟨some 163, (.fieldAddr 4 (.tmp 162)), none⟩,
 .op 13 ⟨none, (.store 1 (.tmp 163) (.tmp 161)), none⟩])
 (.seq (.region [⟨some 165, (.move (.tmp 12)), none⟩,
 ⟨some 166, (.bin .eql .prim (.tmp 165) (.con (.int .i64 6))), none⟩,
 ⟨some 167, (.move (.tmp 166)), none⟩,
 ⟨some 168, (.move (.tmp 11)), some (167, true)⟩,
 ⟨some 169, (.pick (.tmp 167) (.tmp 168) (.con (.bool false))), none⟩,
 ⟨some 164, (.move (.tmp 169)), none⟩])
 (.cond (.tmp 164)
 (.dregion [[], [0], [], [], [], [4], [4, 5], [5, 4, 6], [6, 4, 5, 7, 3], [8, 7, 6, 5, 4, 3, 2, 0, 1], [1, 0, 2, 3, 4, 5, 6, 7, 8, 9], [9, 8, 7, 6, 5, 4, 3, 2, 0, 1, 10]] [.op 0 ⟨some 170, (.fieldAddr 3 (.tmp 4)), none⟩,
 .op 1 ⟨some 171, (.load1 (.tmp 170)), none⟩,
 .op 2 ⟨some 172, (.move (.tmp 10)), none⟩,
 .op 3 ⟨some 173, (.move (.tmp 3)), none⟩,
 .op 4 ⟨some 174, (.fieldAddr 3 (.tmp 4)), none⟩,
 .op 5 ⟨some 175, (.load1 (.tmp 174)), none⟩,
 .op 6 ⟨some 176, (.lenS (.tmp 175)), none⟩,
 .op 7 ⟨some 177, (.bin .add .prim (.tmp 176) (.con (.int .i64 1))), none⟩,
 .op 8 ⟨some 178, (.call 50 [(.tmp 173), (.tmp 177)]), none⟩,
 .re 1 ⟨some 171, (.load1 (.tmp 170)), none⟩,
 .op 9 ⟨some 179, (.indexAddrS 7 (.tmp 171) (.tmp 172)), none⟩,
 .op 10 ⟨some 180, (.fieldAddr 5 (.tmp 179)), none⟩,
 .op 11 ⟨none, (.store 1 (.tmp 180) (.tmp 178)), none⟩])
 (.seq (.region [⟨some 182, (.move (.tmp 12)), none⟩,
 ⟨some 183, (.bin .eql .prim (.tmp 182) (.con (.int .i64 7))), none⟩,
 ⟨some 184, (.move (.tmp 183)), none⟩,
 ⟨some 185, (.move (.tmp 11)), some (184, true)⟩,
 ⟨some 186, (.pick (.tmp 184) (.tmp 185) (.con (.bool false))), none⟩,
 ⟨some 181, (.move (.tmp 186)), none⟩])
 (.cond (.tmp 181)
 (.dregion [[], [0], [], [], [], [4], [4, 5], [5, 4, 6], [6, 4, 5, 7, 3], [3, 7, 5, 4, 6, 8], [9, 8, 7, 6, 5, 4, 3, 2, 0, 1], [1, 0, 2, 3, 4, 5, 6, 7, 8, 9, 10], [10, 9, 8, 7, 6, 5, 4, 3, 2, 0, 1, 11]] [.op 0 ⟨some 187, (.fieldAddr 3 (.tmp 4)), none⟩,
 .op 1 ⟨some 188, (.load1 (.tmp 187)), none⟩,
 .op 2 ⟨some 189, (.move (.tmp 10)), none⟩,
 .op 3 ⟨some 190, (.move (.tmp 3)), none⟩,
 .op 4 ⟨some 191, (.fieldAddr 3 (.tmp 4)), none⟩,
 .op 5 ⟨some 192, (.load1 (.tmp 191)), none⟩,
 .op 6 ⟨some 193, (.lenS (.tmp 192)), none⟩,
 .op 7 ⟨some 194, (.bin .add .prim (.tmp 193) (.con (.int .i64 2))), none⟩,
 .op 8 ⟨some 195, (.call 50 [(.tmp 190), (.tmp 194)]), none⟩,
 .re 1 ⟨some 188, (.load1 (.tmp 187)), none⟩,
 .op 9 ⟨some 196, (.bin .sub .prim (.tmp 195) (.con (.int .i64 1))), none⟩,
 .op 10 ⟨some 197, (.indexAddrS 7 (.tmp 188) (.tmp 189)), none⟩,
 .op 11 ⟨some 198, (.fieldAddr 6 (.tmp 197)), none⟩,
 .op 12 ⟨none, (.store 1 (.tmp 198) (.tmp 196)), none⟩])
 (.seq (.region [⟨some 200, (.move (.tmp 12)), none⟩,
 ⟨some 201, (.bin .eql .prim (.tmp 200) (.con (.int .i64 8))), none⟩,
 ⟨some 199, (.move (.tmp 201)), none⟩])
 (.cond (.tmp 199)
 (.dregion [[], [0], [], [], [3], [], [5, 3, 4], [4, 3, 5, 6], [], [], [9], [9, 10], [10, 9, 11], [11, 9, 10, 12, 8], [8, 12, 10, 9, 11, 13], [13, 11, 9, 10, 12, 8, 14], [14, 8, 12, 10, 9, 11, 13, 15, 6, 5, 3, 4, 7], [16, 15, 14, 13, 12, 11, 10, 9, 8, 7, 6, 5, 4, 3, 2, 0, 1], [1, 0, 2, 3, 4, 5, 6, 7, 8, 9, 10, 11, 12, 13, 14, 15, 16, 17]] [.op 0 ⟨some 202, (.fieldAddr 4 (.tmp 4)), none⟩,
 .op 1 ⟨some 203, (.load1 (.tmp 202)), none⟩,
 .op 2 ⟨some 204, (.move (.tmp 9)), none⟩,
 .op 3 ⟨some 205, (.fieldAddr 4 (.tmp 4)), none⟩,
 .op 4 ⟨some 206, (.load1 (.tmp 205)), none⟩,
 .op 5 ⟨some 207, (.move (.tmp 9)), none⟩,
 .op 6 ⟨some 208, (.indexAddrS 1 (.tmp 206) (.tmp 207)), none⟩,
 .op 7 ⟨some 209, (.load1 (.tmp 208)), none⟩,
 .op 8 ⟨some 210, (.move (.tmp 3)), none⟩,
 .op 9 ⟨some 211, (.fieldAddr 3 (.tmp 4)), none⟩,
 .op 10 ⟨some 212, (.load1 (.tmp 211)), none⟩,
 .op 11 ⟨some 213, (.lenS (.tmp 212)), none⟩,
 .op 12 ⟨some 214, (.bin .add .prim (.tmp 213) (.con (.int .i64 2))), none⟩,
 .op 13 ⟨some 215, (.call 50 [(.tmp 210), (.tmp 214)]), none⟩,
 .re 1 ⟨some 203, (.load1 (.tmp 202)), none⟩,
 .re 4 ⟨some 206, (.load1 (.tmp 205)), none⟩,
 .re 7 ⟨some 209, (.load1 (.tmp 208)), none⟩,
 .op 14 ⟨some 216, (.bin .sub .prim (.tmp 215) (.con (.int .i64 1))), none⟩,
 .op 15 ⟨some 217, (.buildSlice [(.int .i64 0)] 1 [(0, 1, (.tmp 216))]), none⟩,
 .op 16 ⟨some 218, (.append 1 8 (.tmp 209) (.tmp 217)), none⟩,
 .re 1 ⟨some 203, (.load1 (.tmp 202)), none⟩,
 .op 17 ⟨some 219, (.indexAddrS 1 (.tmp 203) (.tmp 204)), none⟩,
 .op 18 ⟨none, (.store 1 (.tmp 219) (.tmp 218)), none⟩])
 (.seq (.region [⟨some 221, (.move (.tmp 12)), none⟩,
 ⟨some 222, (.bin .eql .prim (.tmp 221) (.con (.int .i64 9))), none⟩,
 ⟨some 220, (.move (.tmp 222)), none⟩])
 (.cond (.tmp 220)
 (.dregion [[], [0], [], [], [3], [], [5, 3, 4], [4, 3, 5, 6], [], [], [9], [9, 10], [10, 9, 11], [11, 9, 10, 12, 8], [8, 12, 10, 9, 11, 13], [13, 11, 9, 10, 12, 8, 14], [14, 8, 12, 10, 9, 11, 13, 15, 6, 5, 3, 4, 7], [16, 15, 14, 13, 12, 11, 10, 9, 8, 7, 6, 5, 4, 3, 2, 0, 1], [1, 0, 2, 3, 4, 5, 6, 7, 8, 9, 10, 11, 12, 13, 14, 15, 16, 17]] [.op 0 ⟨some 223, (.fieldAddr 5 (.tmp 4)), none⟩,
 .op 1 ⟨some 224, (.load1 (.tmp 223)), none⟩,
 .op 2 ⟨some 225, (.move (.tmp 9)), none⟩,
 .op 3 ⟨some 226, (.fieldAddr 5 (.tmp 4)), none⟩,
 .op 4 ⟨some 227, (.load1 (.tmp 226)), none⟩,
 .op 5 ⟨some 228, (.move (.tmp 9)), none⟩,
 .op 6 ⟨some 229, (.indexAddrS 1 (.tmp 227) (.tmp 228)), none⟩,
 .op 7 ⟨some 230, (.load1 (.tmp 229)), none⟩,
 .op 8 ⟨some 231, (.move (.tmp 3)), none⟩,
 .op 9 ⟨some 232, (.fieldAddr 3 (.tmp 4)), none⟩,
 .op 10 ⟨some 233, (.load1 (.tmp 232)), none⟩,
 .op 11 ⟨some 234, (.lenS (.tmp 233)), none⟩,
 .op 12 ⟨some 235, (.bin .add .prim (.tmp 234) (.con (.int .i64 2))), none⟩,
 .op 13 ⟨some 236, (.call 50 [(.tmp 231), (.tmp 235)]), none⟩,
 .re 1 ⟨some 224, (.load1 (.tmp 223)), none⟩,
 .re 4 ⟨some 227, (.load1 (.tmp 226)), none⟩,
 .re 7 ⟨some 230, (.load1 (.tmp 229)), none⟩,
 .op 14 ⟨some 237, (.bin .sub .prim (.tmp 236) (.con (.int .i64 1))), none⟩,
 .op 15 ⟨some 238, (.buildSlice [(.int .i64 0)] 1 [(0, 1, (.tmp 237))]), none⟩,
 .op 16 ⟨some 239, (.append 1 8 (.tmp 230) (.tmp 238)), none⟩,
 .re 1 ⟨some 224, (.load1 (.tmp 223)), none⟩,
 .op 17 ⟨some 240, (.indexAddrS 1 (.tmp 224) (.tmp 225)), none⟩,
 .op 18 ⟨none, (.store 1 (.tmp 240) (.tmp 239)), none⟩])
 (.seq (.region [⟨some 242, (.move (.tmp 12)), none⟩,
 ⟨some 243, (.bin .eql .prim (.tmp 242) (.con (.int .i64 10))), none⟩,
 ⟨some 244, (.move (.tmp 243)), none⟩,
 ⟨some 245, (.fieldAddr 4 (.tmp 4)), some (244, true)⟩,
 ⟨some 246, (.load1 (.tmp 245)), some (244, true)⟩,
 ⟨some 247, (.move (.tmp 9)), some (244, true)⟩,
 ⟨some 248, (.indexAddrS 1 (.tmp 246) (.tmp 247)), some (244, true)⟩,
 ⟨some 249, (.load1 (.tmp 248)), some (244, true)⟩,
 ⟨some 250, (.lenS (.tmp 249)), some (244, true)⟩,
 ⟨some 251, (.bin .gtr .prim (.tmp 250) (.con (.int .i64 0))), some (244, true)⟩,
 ⟨some 252, (.pick (.tmp 244) (.tmp 251) (.con (.bool false))), none⟩,
 ⟨some 241, (.move (.tmp 252)), none⟩])
 (.cond (.tmp 241)
 (.dregion [[], [0], [], [], [3], [], [5, 3, 4], [4, 3, 5, 6], [6, 5, 3, 4, 7], [8, 7, 6, 5, 4, 3, 2, 0, 1], [1, 0, 2, 3, 4, 5, 6, 7, 8, 9]] [.op 0 ⟨some 253, (.fieldAddr 4 (.tmp 4)), none⟩,
 .op 1 ⟨some 254, (.load1 (.tmp 253)), none⟩,
 .op 2 ⟨some 255, (.move (.tmp 9)), none⟩,
 .op 3 ⟨some 256, (.fieldAddr 4 (.tmp 4)), none⟩,
 .op 4 ⟨some 257, (.load1 (.tmp 256)), none⟩,
 .op 5 ⟨some 258, (.move (.tmp 9)), none⟩,
 .op 6 ⟨some 259, (.indexAddrS 1 (.tmp 257) (.tmp 258)), none⟩,
 .op 7 ⟨some 260, (.load1 (.tmp 259)), none⟩,
 .op 8 ⟨some 261, (.slice 1 (.tmp 260) (some (.con (.int .i64 1))) none none), none⟩,
 .op 9 ⟨some 262, (.indexAddrS 1 (.tmp 254) (.tmp 255)), none⟩,
 .op 10 ⟨none, (.store 1 (.tmp 262) (.tmp 261)), none⟩])
 (.seq (.region [⟨some 264, (.move (.tmp 12)), none⟩,
 ⟨some 265, (.bin .eql .prim (.tmp 264) (.con (.int .i64 11))), none⟩,
 ⟨some 266, (.move (.tmp 265)), none⟩,
 ⟨some 267, (.fieldAddr 5 (.tmp 4)), some (266, true)⟩,
 ⟨some 268, (.load1 (.tmp 267)), some (266, true)⟩,
 ⟨some 269, (.move (.tmp 9)), some (266, true)⟩,
 ⟨some 270, (.indexAddrS 1 (.tmp 268) (.tmp 269)), some (266, true)⟩,
 ⟨some 271, (.load1 (.tmp 270)), some (266, true)⟩,
 ⟨some 272, (.lenS (.tmp 271)), some (266, true)⟩,
 ⟨some 273, (.bin .gtr .prim (.tmp 272) (.con (.int .i64 0))), some (266, true)⟩,
 ⟨some 274, (.pick (.tmp 266) (.tmp 273) (.con (.bool false))), none⟩,
 ⟨some 263, (.move (.tmp 274)), none⟩])
 (.cond (.tmp 263)
 (.dregion [[], [0], [], [], [3], [], [5, 3, 4], [4, 3, 5, 6], [], [8], [], [10, 8, 9], [9, 8, 10, 11], [11, 10, 8, 9, 12], [12, 9, 8, 10, 11, 13], [13, 11, 10, 8, 9, 12, 14, 6, 5, 3, 4, 7], [15, 14, 13, 12, 11, 10, 9, 8, 7, 6, 5, 4, 3, 2, 0, 1], [1, 0, 2, 3, 4, 5, 6, 7, 8, 9, 10, 11, 12, 13, 14, 15, 16]] [.op 0 ⟨some 275, (.fieldAddr 5 (.tmp 4)), none⟩,
 .op 1 ⟨some 276, (.load1 (.tmp 275)), none⟩,
 .op 2 ⟨some 277, (.move (.tmp 9)), none⟩,
 .op 3 ⟨some 278, (.fieldAddr 5 (.tmp 4)), none⟩,
 .op 4 ⟨some 279, (.load1 (.tmp 278)), none⟩,
 .op 5 ⟨some 280, (.move (.tmp 9)), none⟩,
 .op 6 ⟨some 281, (.indexAddrS 1 (.tmp 279) (.tmp 280)), none⟩,
 .op 7 ⟨some 282, (.load1 (.tmp 281)), none⟩,
 .op 8 ⟨some 283, (.fieldAddr 5 (.tmp 4)), none⟩,
 .op 9 ⟨some 284, (.load1 (.tmp 283)), none⟩,
 .op 10 ⟨some 285, (.move (.tmp 9)), none⟩,
 .op 11 ⟨some 286, (.indexAddrS 1 (.tmp 284) (.tmp 285)), none⟩,
 .op 12 ⟨some 287, (.load1 (.tmp 286)), none⟩,
 .op 13 ⟨some 288, (.lenS (.tmp 287)), none⟩,
 .op 14 ⟨some 289, (.bin .sub .prim (.tmp 288) (.con (.int .i64 1))), none⟩,
 .op 15 ⟨some 290, (.slice 1 (.tmp 282) none (some (.tmp 289)) none), none⟩,
 .op 16 ⟨some 291, (.indexAddrS 1 (.tmp 276) (.tmp 277)), none⟩,
 .op 17 ⟨none, (.store 1 (.tmp 291) (.tmp 290)), none⟩])
 (.seq (.region [⟨some 293, (.move (.tmp 12)), none⟩,
 ⟨some 294, (.bin .eql .prim (.tmp 293) (.con (.int .i64 12))), none⟩,
 ⟨some 292, (.move (.tmp 294)), none⟩])
 (.cond (.tmp 292)
 (.region [⟨some 295, (.fieldAddr 4 (.tmp 4)), none⟩,
 ⟨some 296, (.load1 (.tmp 295)), none⟩,
 ⟨some 297, (.fieldAddr 4 (.tmp 4)), none⟩,
 ⟨some 298, (.load1 (.tmp 297)), none⟩,
 ⟨some 299, (.lenS (.tmp 298)), none⟩,
 ⟨some 300, (.bin .sub .prim (.tmp 299) (.con (.int .i64 1))), none⟩,
 ⟨some 301, (.slice 1 (.tmp 296) none (some (.tmp 300)) none), none⟩,
 ⟨some 302, (.fieldAddr 4 (.tmp 4)), none⟩,
 ⟨none, (.store 1 (.tmp 302) (.tmp 301)), none⟩])
 (.seq (.region [⟨some 304, (.move (.tmp 12)), none⟩,
 ⟨some 305, (.bin .eql .prim (.tmp 304) (.con (.int .i64 13))), none⟩,
 ⟨some 303, (.move (.tmp 305)), none⟩])
 (.cond (.tmp 303)
 (.region [⟨some 306, (.fieldAddr 2 (.tmp 4)), none⟩,
 ⟨some 307, (.load1 (.tmp 306)), none⟩,
 ⟨some 308, (.buildSlice [(.int .i64 0)] 1 [(0, 1, (.con (.int .i64 (-1))))]), none⟩,
 ⟨some 309, (.append 1 8 (.tmp 307) (.tmp 308)), none⟩,
 ⟨some 310, (.fieldAddr 2 (.tmp 4)), none⟩,
 ⟨none, (.store 1 (.tmp 310) (.tmp 309)), none⟩])
 (.seq (.region [⟨some 312, (.move (.tmp 12)), none⟩,
 ⟨some 313, (.bin .eql .prim (.tmp 312) (.con (.int .i64 14))), none⟩,
 ⟨some 314, (.move (.tmp 313)), none⟩,
 ⟨some 315, (.move (.tmp 11)), some (314, true)⟩,
 ⟨some 316, (.pick (.tmp 314) (.tmp 315) (.con (.bool false))), none⟩,
 ⟨some 311, (.move (.tmp 316)), none⟩])
 (.cond (.tmp 311)
 (.dregion [[], [0], [], [2], [], [4, 2, 3], [3, 2, 4, 5], [5, 4, 2, 3, 6], [6, 3, 2, 4, 5, 7, 0, 1], [8, 7, 6, 5, 4, 3, 2, 1, 0], [0, 1, 2, 3, 4, 5, 6, 7, 8, 9]] [.op 0 ⟨some 317, (.fieldAddr 3 (.tmp 4)), none⟩,
 .op 1 ⟨some 318, (.load1 (.tmp 317)), none⟩,
 .op 2 ⟨some 319, (.fieldAddr 3 (.tmp 4)), none⟩,
 .op 3 ⟨some 320, (.load1 (.tmp 319)), none⟩,
 .op 4 ⟨some 321, (.move (.tmp 10)), none⟩,
 .op 5 ⟨some 322, (.indexAddrS 7 (.tmp 320) (.tmp 321)), none⟩,
 .op 6 ⟨some 323, (.loadN 7 (.tmp 322)), none⟩,
 .op 7 ⟨some 324, (.buildSlice [(.int .i64 0), (.int .i64 0), (.int .i64 0), (.int .i64 0), (.int .i64 0), (.int .i64 0), (.int .i64 0)] 1 [(0, 7, (.tmp 323))]), none⟩,
 .op 8 ⟨some 325, (.append 7 56 (.tmp 318) (.tmp 324)), none⟩,
 .op 9 ⟨some 326, (.fieldAddr 3 (.tmp 4)), none⟩,
 .op 10 ⟨none, (.store 1 (.tmp 326) (.tmp 325)), none⟩])
 (.seq (.region [⟨some 328, (.move (.tmp 12)), none⟩,
 ⟨some 329, (.bin .eql .prim (.tmp 328) (.con (.int .i64 15))), none⟩,
 ⟨some 330, (.move (.tmp 329)), none⟩,
 ⟨some 331, (.fieldAddr 0 (.tmp 4)), some (330, true)⟩,
 ⟨some 332, (.fieldAddr 1 (.tmp 331)), some (330, true)⟩,
 ⟨some 333, (.load1 (.tmp 332)), some (330, true)⟩,
 ⟨some 334, (.lenS (.tmp 333)), some (330, true)⟩,
 ⟨some 335, (.bin .gtr .prim (.tmp 334) (.con (.int .i64 0))), some (330, true)⟩,
 ⟨some 336, (.pick (.tmp 330) (.tmp 335) (.con (.bool false))), none⟩,
 ⟨some 327, (.move (.tmp 336)), none⟩])
 (.cond (.tmp 327)
 (.dregion [[], [0], [0, 1], [], [], [4], [4, 5], [5, 4, 6], [6, 4, 5, 7, 3], [], [3, 7, 5, 4, 6, 8, 9], [10, 9, 3, 7, 5, 4, 6, 8, 1, 0, 2], [2, 0, 1, 8, 6, 4, 5, 7, 3, 9, 10, 11], [11, 10, 9, 3, 7, 5, 4, 6, 8, 1, 0, 2, 12]] [.op 0 ⟨some 337, (.fieldAddr 0 (.tmp 4)), none⟩,
 .op 1 ⟨some 338, (.fieldAddr 1 (.tmp 337)), none⟩,
 .op 2 ⟨some 339, (.load1 (.tmp 338)), none⟩,
 .op 3 ⟨some 340, (.move (.tmp 2)), none⟩,
 .op 4 ⟨some 341, (.fieldAddr 0 (.tmp 4)), none⟩,
 .op 5 ⟨some 342, (.fieldAddr 1 (.tmp 341)), none⟩,
 .op 6 ⟨some 343, (.load1 (.tmp 342)), none⟩,
 .op 7 ⟨some 344, (.lenS (.tmp 343)), none⟩,
 .op 9 ⟨some 346, (.move (.tmp 3)), none⟩,
 .op 8 ⟨some 345, (.call 50 [(.tmp 340), (.tmp 344)]), none⟩,
 .re 2 ⟨some 339, (.load1 (.tmp 338)), none⟩,
 .op 10 ⟨some 347, (.call 50 [(.tmp 346), (.con (.int .i64 9))]), none⟩,
 .re 2 ⟨some 339, (.load1 (.tmp 338)), none⟩,
 .op 11 ⟨some 348, (.indexAddrS 4 (.tmp 339) (.tmp 345)), none⟩,
 .op 12 ⟨some 349, (.fieldAddr 3 (.tmp 348)), none⟩,
 .op 13 ⟨none, (.store 1 (.tmp 349) (.tmp 347)), none⟩])
 .skip))))))))))))))))))))))))))))))))))
 (.seq (.region [⟨some 350, (.loadN 6 (.tmp 4)), none⟩,
 ⟨none, (.store 6 (.tmp 8) (.tmp 350)), none⟩])
 .ret)))))))))))⟩
theorem F36_ok : cfn tab F36.body Try.f36 = some F36 := by kernel_rfl

/- milestone/milestoneref10.Links -/
def F39 : AFn := ⟨34, [.tmp 2],
 (.seq (.region [⟨some 1, (.box 2 (.tmp 0)), none⟩,
 ⟨some 2, (.move (.con .nilSlice)), none⟩])
 (.seq (.region [⟨some 8, (.loadN 2 (.tmp 1)), none⟩,
 ⟨some 9, (.call 43 [(.tmp 8)]), none⟩,
 ⟨some 3, (.move (.tmp 9)), none⟩])
 (.seq (.region [⟨some 4, (.move (.con .nilSlice)), none⟩])
 (.seq (.seq (.region [⟨some 5, (.move (.con (.int .i64 0))), none⟩])
 (.join [false, false, true, false, true] (.block 0 (.loop [false, true, false, true, true, true] [false, false, true, false, true]
 (.seq (.seq (.region [⟨some 10, (.move (.tmp 5)), none⟩,
 ⟨some 11, (.fieldAddr 0 (.tmp 1)), none⟩,
 ⟨some 12, (.load1 (.tmp 11)), none⟩,
 ⟨some 13, (.bin .lss .prim (.tmp 10) (.tmp 12)), none⟩])
 (.cond (.tmp 13)
 .skip
 (.exit 0)))
 (.seq (.block 1 (.seq (.region [⟨some 6, (.move (.con (.int .i64 0))), none⟩])
 (.seq (.seq (.region [⟨some 7, (.move (.con (.int .u64 0))), none⟩])
 (.join [false, true, true, true, true, true, true] (.block 2 (.loop [false, true, false, true, true, true, true, true] [false, true, true, true, true, true, true]
 (.seq (.seq (.region [⟨some 16, (.move (.tmp 7)), none⟩,
 ⟨some 17, (.bin .lss .prim (.tmp 16) (.con (.int .u64 5))), none⟩])
 (.cond (.tmp 17)
 .skip
 (.exit 2)))
 (.seq (.block 3 (.region [⟨some 20, (.move (.tmp 6)), none⟩,
 ⟨some 21, (.move (.tmp 3)), none⟩,
 ⟨some 22, (.move (.tmp 5)), none⟩,
 ⟨some 23, (.call 84 [(.tmp 21), (.tmp 22)]), none⟩,
 ⟨some 24, (.move (.tmp 7)), none⟩,
 ⟨some 25, (.bin .shr .prim (.tmp 23) (.tmp 24)), none⟩,
 ⟨some 26, (.bin .and .prim (.tmp 25) (.con (.int .i64 1))), none⟩,
 ⟨some 27, (.bin .add .prim (.tmp 20) (.tmp 26)), none⟩,
 ⟨some 6, (.move (.tmp 27)), none⟩]))
 (.region [⟨some 18, (.move (.tmp 7)), none⟩,
 ⟨some 19, (.bin .add .prim (.tmp 18) (.con (.int .u64 1))), none⟩,
 ⟨some 7, (.move (.tmp 19)), none⟩])))))))
 (.region [⟨some 28, (.move (.tmp 4)), none⟩,
 ⟨some 29, (.move (.tmp 6)), none⟩,
 ⟨some 30, (.bin .geq .prim (.tmp 29) (.con (.int .i64 2))), none⟩,
 ⟨some 31, (.buildSlice [(.bool false)] 1 [(0, 1, (.tmp 30))]), none⟩,
 ⟨some 32, (.append 1 1 (.tmp 28) (.tmp 31)), none⟩,
 ⟨some 4, (.move (.tmp 32)), none⟩]))))
 (.region [⟨some 14, (.move (.tmp 5)), none⟩,
 ⟨some 15, (.bin .add .prim (.tmp 14) (.con (.int .i64 1))), none⟩,
 ⟨some 5, (.move (.tmp 15)), none⟩])))))))
 (.seq (.region [⟨some 33, (.move (.tmp 4)), none⟩,
 ⟨some 2, (.move (.tmp 33)), none⟩])
 .ret)))))⟩
theorem F39_ok : cfn tab F39.body Try.f39 = some F39 := by kernel_rfl

/- milestone/milestoneref1.Ints -/
def F40 : AFn := ⟨26, [.tmp 4],
 (.seq (.region [⟨some 4, (.move (.con (.bool false))), none⟩])
 (.seq (.seq (.region [⟨some 6, (.move (.tmp 0)), none⟩,
 ⟨some 7, (.lenS (.tmp 6)), none⟩,
 ⟨some 8, (.move (.tmp 1)), none⟩,
 ⟨some 9, (.lenS (.tmp 8)), none⟩,
 ⟨some 10, (.bin .neq .prim (.tmp 7) (.tmp 9)), none⟩])
 (.cond (.tmp 10)
 (.seq (.region [⟨some 4, (.move (.con (.bool false))), none⟩])
 .ret)
 .skip))
 (.seq (.seq (.region [⟨some 5, (.move (.con (.int .i64 0))), none⟩])
 (.join [false, false, false, false, true] (.block 0 (.loop [true, true, false, false, false, true] [false, false, false, false, true]
 (.seq (.seq (.region [⟨some 11, (.move (.tmp 5)), none⟩,
 ⟨some 12, (.move (.tmp 0)), none⟩,
 ⟨some 13, (.lenS (.tmp 12)), none⟩,
 ⟨some 14, (.bin .lss .prim (.tmp 11) (.tmp 13)), none⟩])
 (.cond (.tmp 14)
 .skip
 (.exit 0)))
 (.seq (.block 1 (.seq (.dregion [[], [], [1, 0], [0, 1, 2], [], [], [5, 4], [4, 5, 6], [6, 5, 4, 7, 2, 1, 0, 3]] [.op 0 ⟨some 17, (.move (.tmp 0)), none⟩,
 .op 1 ⟨some 18, (.move (.tmp 5)), none⟩,
 .op 2 ⟨some 19, (.indexAddrS 1 (.tmp 17) (.tmp 18)), none⟩,
 .op 3 ⟨some 20, (.load1 (.tmp 19)), none⟩,
 .op 4 ⟨some 21, (.move (.tmp 1)), none⟩,
 .op 5 ⟨some 22, (.move (.tmp 5)), none⟩,
 .op 6 ⟨some 23, (.indexAddrS 1 (.tmp 21) (.tmp 22)), none⟩,
 .op 7 ⟨some 24, (.load1 (.tmp 23)), none⟩,
 .op 8 ⟨some 25, (.bin .neq .prim (.tmp 20) (.tmp 24)), none⟩])
 (.cond (.tmp 25)
 (.seq (.region [⟨some 4, (.move (.con (.bool false))), none⟩])
 .ret)
 .skip)))
 (.region [⟨some 15, (.move (.tmp 5)), none⟩,
 ⟨some 16, (.bin .add .prim (.tmp 15) (.con (.int .i64 1))), none⟩,
 ⟨some 5, (.move (.tmp 16)), none⟩])))))))
 (.seq (.region [⟨some 4, (.move (.con (.bool true))), none⟩])
 .ret))))⟩
theorem F40_ok : cfn tab F40.body Try.f40 = some F40 := by kernel_rfl

/- milestone/milestoneref10.Order -/
def F42 : AFn := ⟨49, [.tmp 2],
 (.seq (.region [⟨some 1, (.box 2 (.tmp 0)), none⟩,
 ⟨some 2, (.move (.con .nilSlice)), none⟩])
 (.seq (.dregion [[], [0], [], [0, 1, 2], [2, 3, 0, 1], [4, 2, 1, 0, 3]] [.op 0 ⟨some 8, (.loadN 2 (.tmp 1)), none⟩,
 .op 2 ⟨some 10, (.loadN 2 (.tmp 1)), none⟩,
 .op 1 ⟨some 9, (.call 43 [(.tmp 8)]), none⟩,
 .re 2 ⟨some 10, (.loadN 2 (.tmp 1)), none⟩,
 .op 3 ⟨some 11, (.call 39 [(.tmp 10)]), none⟩,
 .op 4 ⟨some 3, (.move (.tmp 9)), none⟩,
 .op 5 ⟨some 4, (.move (.tmp 11)), none⟩])
 (.seq (.region [⟨some 5, (.move (.con .nilSlice)), none⟩])
 (.seq (.seq (.region [⟨some 6, (.move (.con (.int .i64 0))), none⟩])
 (.join [false, false, true, false, false, true] (.block 0 (.loop [false, true, false, true, true, true, true] [false, false, true, false, false, true]
 (.seq (.seq (.region [⟨some 12, (.move (.tmp 6)), none⟩,
 ⟨some 13, (.fieldAddr 1 (.tmp 1)), none⟩,
 ⟨some 14, (.load1 (.tmp 13)), none⟩,
 ⟨some 15, (.lenS (.tmp 14)), none⟩,
 ⟨some 16, (.bin .mul .prim (.con (.int .i64 2)) (.tmp 15)), none⟩,
 ⟨some 17, (.bin .leq .prim (.tmp 12) (.tmp 16)), none⟩])
 (.cond (.tmp 17)
 .skip
 (.exit 0)))
 (.seq (.block 1 (.seq (.region [⟨some 7, (.move (.con (.int .i64 0))), none⟩])
 (.block 2 (.loop [false, true, false, true, true, true, true, true] [false, true, true, true, true, true, true]
 (.seq (.seq (.region [⟨some 20, (.move (.tmp 7)), none⟩,
 ⟨some 21, (.fieldAddr 0 (.tmp 1)), none⟩,
 ⟨some 22, (.load1 (.tmp 21)), none⟩,
 ⟨some 23, (.bin .lss .prim (.tmp 20) (.tmp 22)), none⟩])
 (.cond (.tmp 23)
 .skip
 (.exit 2)))
 (.seq (.block 3 (.seq (.region [⟨some 26, (.move (.tmp 4)), none⟩,
 ⟨some 27, (.move (.tmp 7)), none⟩,
 ⟨some 28, (.indexAddrS 1 (.tmp 26) (.tmp 27)), none⟩,
 ⟨some 29, (.load1 (.tmp 28)), none⟩,
 ⟨some 30, (.un .not (.tmp 29)), none⟩,
 ⟨some 31, (.move (.tmp 30)), none⟩,
 ⟨some 32, (.move (.tmp 3)), some (31, true)⟩,
 ⟨some 33, (.move (.tmp 7)), some (31, true)⟩,
 ⟨some 34, (.call 44 [(.tmp 32), (.tmp 33)]), some (31, true)⟩,
 ⟨some 35, (.lenS (.tmp 34)), some (31, true)⟩,
 ⟨some 36, (.move (.tmp 3)), some (31, true)⟩,
 ⟨some 37, (.move (.tmp 7)), some (31, true)⟩,
 ⟨some 38, (.call 45 [(.tmp 36), (.tmp 37)]), some (31, true)⟩,
 ⟨some 39, (.lenS (.tmp 38)), some (31, true)⟩,
 ⟨some 40, (.bin .add .prim (.tmp 35) (.tmp 39)), some (31, true)⟩,
 ⟨some 41, (.move (.tmp 6)), some (31, true)⟩,
 ⟨some 42, (.bin .eql .prim (.tmp 40) (.tmp 41)), some (31, true)⟩,
 ⟨some 43, (.pick (.tmp 31) (.tmp 42) (.con (.bool false))), none⟩])
 (.cond (.tmp 43)
 (.region [⟨some 44, (.move (.tmp 5)), none⟩,
 ⟨some 45, (.move (.tmp 7)), none⟩,
 ⟨some 46, (.buildSlice [(.int .i64 0)] 1 [(0, 1, (.tmp 45))]), none⟩,
 ⟨some 47, (.append 1 8 (.tmp 44) (.tmp 46)), none⟩,
 ⟨some 5, (.move (.tmp 47)), none⟩])
 .skip)))
 (.region [⟨some 24, (.move (.tmp 7)), none⟩,
 ⟨some 25, (.bin .add .prim (.tmp 24) (.con (.int .i64 1))), none⟩,
 ⟨some 7, (.move (.tmp 25)), none⟩])))))))
 (.region [⟨some 18, (.move (.tmp 6)), none⟩,
 ⟨some 19, (.bin .add .prim (.tmp 18) (.con (.int .i64 1))), none⟩,
 ⟨some 6, (.move (.tmp 19)), none⟩])))))))
 (.seq (.region [⟨some 48, (.move (.tmp 5)), none⟩,
 ⟨some 2, (.move (.tmp 48)), none⟩])
 .ret)))))⟩
theorem F42_ok : cfn tab F42.body Try.f42 = some F42 := by kernel_rfl

/- milestone/milestoneref2.New -/
def F43 : AFn := ⟨6, [.tmp 2],
 (.seq (.region [⟨some 1, (.box 2 (.tmp 0)), none⟩,
 ⟨some 2, (.move (.con .nilPtr)), none⟩])
 (.seq (.region [⟨some 3, (.loadN 2 (.tmp 1)), none⟩,
 ⟨some 4, (.build [(.int .i64 0), .nilSlice] [(0, 2, (.tmp 3))]), none⟩,
 ⟨some 5, (.box 2 (.tmp 4)), none⟩,
 ⟨some 2, (.move (.tmp 5)), none⟩])
 .ret))⟩
theorem F43_ok : cfn tab F43.body Try.f43 = some F43 := by kernel_rfl

/- (*milestone/milestoneref2.Adj).Out -/
def F44 : AFn := ⟨33, [.tmp 4],
 (.seq (.region [⟨some 4, (.move (.con .nilSlice)), none⟩])
 (.seq (.region [⟨some 5, (.move (.con .nilSlice)), none⟩])
 (.seq (.seq (.region [⟨some 6, (.move (.con (.int .i64 0))), none⟩])
 (.join [false, false, false, false, true, true] (.block 0 (.loop [true, true, false, false, false, true, true] [false, false, false, false, true, true]
 (.seq (.seq (.region [⟨some 7, (.move (.tmp 6)), none⟩,
 ⟨some 8, (.move (.tmp 0)), none⟩,
 ⟨some 9, (.nilCheck (.tmp 8)), none⟩,
 ⟨some 10, (.fieldAddr 0 (.tmp 9)), none⟩,
 ⟨some 11, (.fieldAddr 1 (.tmp 10)), none⟩,
 ⟨some 12, (.load1 (.tmp 11)), none⟩,
 ⟨some 13, (.lenS (.tmp 12)), none⟩,
 ⟨some 14, (.bin .lss .prim (.tmp 7) (.tmp 13)), none⟩])
 (.cond (.tmp 14)
 .skip
 (.exit 0)))
 (.seq (.block 1 (.seq (.region [⟨some 17, (.move (.tmp 0)), none⟩,
 ⟨some 18, (.nilCheck (.tmp 17)), none⟩,
 ⟨some 19, (.fieldAddr 0 (.tmp 18)), none⟩,
 ⟨some 20, (.fieldAddr 1 (.tmp 19)), none⟩,
 ⟨some 21, (.load1 (.tmp 20)), none⟩,
 ⟨some 22, (.move (.tmp 6)), none⟩,
 ⟨some 23, (.indexAddrS 4 (.tmp 21) (.tmp 22)), none⟩,
 ⟨some 24, (.fieldAddr 0 (.tmp 23)), none⟩,
 ⟨some 25, (.load1 (.tmp 24)), none⟩,
 ⟨some 26, (.move (.tmp 1)), none⟩,
 ⟨some 27, (.bin .eql .prim (.tmp 25) (.tmp 26)), none⟩])
 (.cond (.tmp 27)
 (.region [⟨some 28, (.move (.tmp 5)), none⟩,
 ⟨some 29, (.move (.tmp 6)), none⟩,
 ⟨some 30, (.buildSlice [(.int .i64 0)] 1 [(0, 1, (.tmp 29))]), none⟩,
 ⟨some 31, (.append 1 8 (.tmp 28) (.tmp 30)), none⟩,
 ⟨some 5, (.move (.tmp 31)), none⟩])
 .skip)))
 (.region [⟨some 15, (.move (.tmp 6)), none⟩,
 ⟨some 16, (.bin .add .prim (.tmp 15) (.con (.int .i64 1))), none⟩,
 ⟨some 6, (.move (.tmp 16)), none⟩])))))))
 (.seq (.region [⟨some 32, (.move (.tmp 5)), none⟩,
 ⟨some 4, (.move (.tmp 32)), none⟩])
 .ret))))⟩
theorem F44_ok : cfn tab F44.body Try.f44 = some F44 := by kernel_rfl

/- (*milestone/milestoneref2.Adj).In -/
def F45 : AFn := ⟨33, [.tmp 4],
 (.seq (.region [⟨some 4, (.move (.con .nilSlice)), none⟩])
 (.seq (.region [⟨some 5, (.move (.con .nilSlice)), none⟩])
 (.seq (.seq (.region [⟨some 6, (.move (.con (.int .i64 0))), none⟩])
 (.join [false, false, false, false, true, true] (.block 0 (.loop [true, true, false, false, false, true, true] [false, false, false, false, true, true]
 (.seq (.seq (.region [⟨some 7, (.move (.tmp 6)), none⟩,
 ⟨some 8, (.move (.tmp 0)), none⟩,
 ⟨some 9, (.nilCheck (.tmp 8)), none⟩,
 ⟨some 10, (.fieldAddr 0 (.tmp 9)), none⟩,
 ⟨some 11, (.fieldAddr 1 (.tmp 10)), none⟩,
 ⟨some 12, (.load1 (.tmp 11)), none⟩,
 ⟨some 13, (.lenS (.tmp 12)), none⟩,
 ⟨some 14, (.bin .lss .prim (.tmp 7) (.tmp 13)), none⟩])
 (.cond (.tmp 14)
 .skip
 (.exit 0)))
 (.seq (.block 1 (.seq (.region [⟨some 17, (.move (.tmp 0)), none⟩,
 ⟨some 18, (.nilCheck (.tmp 17)), none⟩,
 ⟨some 19, (.fieldAddr 0 (.tmp 18)), none⟩,
 ⟨some 20, (.fieldAddr 1 (.tmp 19)), none⟩,
 ⟨some 21, (.load1 (.tmp 20)), none⟩,
 ⟨some 22, (.move (.tmp 6)), none⟩,
 ⟨some 23, (.indexAddrS 4 (.tmp 21) (.tmp 22)), none⟩,
 ⟨some 24, (.fieldAddr 1 (.tmp 23)), none⟩,
 ⟨some 25, (.load1 (.tmp 24)), none⟩,
 ⟨some 26, (.move (.tmp 1)), none⟩,
 ⟨some 27, (.bin .eql .prim (.tmp 25) (.tmp 26)), none⟩])
 (.cond (.tmp 27)
 (.region [⟨some 28, (.move (.tmp 5)), none⟩,
 ⟨some 29, (.move (.tmp 6)), none⟩,
 ⟨some 30, (.buildSlice [(.int .i64 0)] 1 [(0, 1, (.tmp 29))]), none⟩,
 ⟨some 31, (.append 1 8 (.tmp 28) (.tmp 30)), none⟩,
 ⟨some 5, (.move (.tmp 31)), none⟩])
 .skip)))
 (.region [⟨some 15, (.move (.tmp 6)), none⟩,
 ⟨some 16, (.bin .add .prim (.tmp 15) (.con (.int .i64 1))), none⟩,
 ⟨some 6, (.move (.tmp 16)), none⟩])))))))
 (.seq (.region [⟨some 32, (.move (.tmp 5)), none⟩,
 ⟨some 4, (.move (.tmp 32)), none⟩])
 .ret))))⟩
theorem F45_ok : cfn tab F45.body Try.f45 = some F45 := by kernel_rfl

/- milestone/milestoneref1.Same -/
def F49 : AFn := ⟨38, [.tmp 4],
 (.seq (.region [⟨some 2, (.box 2 (.tmp 0)), none⟩,
 ⟨some 3, (.box 2 (.tmp 1)), none⟩,
 ⟨some 4, (.move (.con (.bool false))), none⟩])
 (.seq (.seq (.region [⟨some 6, (.fieldAddr 0 (.tmp 2)), none⟩,
 ⟨some 7, (.load1 (.tmp 6)), none⟩,
 ⟨some 8, (.fieldAddr 0 (.tmp 3)), none⟩,
 ⟨some 9, (.load1 (.tmp 8)), none⟩,
 ⟨some 10, (.bin .neq .prim (.tmp 7) (.tmp 9)), none⟩,
 ⟨some 11, (.move (.tmp 10)), none⟩,
 ⟨some 12, (.fieldAddr 1 (.tmp 2)), some (11, false)⟩,
 ⟨some 13, (.load1 (.tmp 12)), some (11, false)⟩,
 ⟨some 14, (.lenS (.tmp 13)), some (11, false)⟩,
 ⟨some 15, (.fieldAddr 1 (.tmp 3)), some (11, false)⟩,
 ⟨some 16, (.load1 (.tmp 15)), some (11, false)⟩,
 ⟨some 17, (.lenS (.tmp 16)), some (11, false)⟩,
 ⟨some 18, (.bin .neq .prim (.tmp 14) (.tmp 17)), some (11, false)⟩,
 ⟨some 19, (.pick (.tmp 11) (.con (.bool true)) (.tmp 18)), none⟩])
 (.cond (.tmp 19)
 (.seq (.region [⟨some 4, (.move (.con (.bool false))), none⟩])
 .ret)
 .skip))
 (.seq (.seq (.region [⟨some 5, (.move (.con (.int .i64 0))), none⟩])
 (.join [false, false, false, false, true] (.block 0 (.loop [false, false, true, true, false, true] [false, false, false, false, true]
 (.seq (.seq (.region [⟨some 20, (.move (.tmp 5)), none⟩,
 ⟨some 21, (.fieldAddr 1 (.tmp 2)), none⟩,
 ⟨some 22, (.load1 (.tmp 21)), none⟩,
 ⟨some 23, (.lenS (.tmp 22)), none⟩,
 ⟨some 24, (.bin .lss .prim (.tmp 20) (.tmp 23)), none⟩])
 (.cond (.tmp 24)
 .skip
 (.exit 0)))
 (.seq (.block 1 (.seq (.dregion [[], [0], [], [2, 0, 1], [1, 0, 2, 3], [], [5], [], [7, 5, 6], [6, 5, 7, 8], [8, 7, 5, 6, 9, 3, 2, 0, 1, 4]] [.op 0 ⟨some 27, (.fieldAddr 1 (.tmp 2)), none⟩,
 .op 1 ⟨some 28, (.load1 (.tmp 27)), none⟩,
 .op 2 ⟨some 29, (.move (.tmp 5)), none⟩,
 .op 3 ⟨some 30, (.indexAddrS 4 (.tmp 28) (.tmp 29)), none⟩,
 .op 4 ⟨some 31, (.loadN 4 (.tmp 30)), none⟩,
 .op 5 ⟨some 32, (.fieldAddr 1 (.tmp 3)), none⟩,
 .op 6 ⟨some 33, (.load1 (.tmp 32)), none⟩,
 .op 7 ⟨some 34, (.move (.tmp 5)), none⟩,
 .op 8 ⟨some 35, (.indexAddrS 4 (.tmp 33) (.tmp 34)), none⟩,
 .op 9 ⟨some 36, (.loadN 4 (.tmp 35)), none⟩,
 .op 10 ⟨some 37, (.bin .neq (.flat [.int, .int, .int, .int]) (.tmp 31) (.tmp 36)), none⟩])
 (.cond (.tmp 37)
 (.seq (.region [⟨some 4, (.move (.con (.bool false))), none⟩])
 .ret)
 .skip)))
 (.region [⟨some 25, (.move (.tmp 5)), none⟩,
 ⟨some 26, (.bin .add .prim (.tmp 25) (.con (.int .i64 1))), none⟩,
 ⟨some 5, (.move (.tmp 26)), none⟩])))))))
 (.seq (.region [⟨some 4, (.move (.con (.bool true))), none⟩])
 .ret))))⟩
theorem F49_ok : cfn tab F49.body Try.f49 = some F49 := by kernel_rfl

/- milestone/milestonelaw11.within -/
def F50 : AFn := ⟨15, [.tmp 4],
 (.seq (.region [⟨some 4, (.move (.con (.int .i64 0))), none⟩])
 (.seq (.region [⟨some 6, (.move (.tmp 0)), none⟩,
 ⟨some 7, (.move (.tmp 1)), none⟩,
 ⟨some 8, (.bin .rem .prim (.tmp 6) (.tmp 7)), none⟩,
 ⟨some 5, (.move (.tmp 8)), none⟩])
 (.seq (.seq (.region [⟨some 9, (.move (.tmp 5)), none⟩,
 ⟨some 10, (.bin .lss .prim (.tmp 9) (.con (.int .i64 0))), none⟩])
 (.join [false, false, false, false, true, true] (.cond (.tmp 10)
 (.region [⟨some 11, (.move (.tmp 5)), none⟩,
 ⟨some 12, (.move (.tmp 1)), none⟩,
 ⟨some 13, (.bin .add .prim (.tmp 11) (.tmp 12)), none⟩,
 ⟨some 5, (.move (.tmp 13)), none⟩])
 .skip)))
 (.seq (.region [⟨some 14, (.move (.tmp 5)), none⟩,
 ⟨some 4, (.move (.tmp 14)), none⟩])
 .ret))))⟩
theorem F50_ok : cfn tab F50.body Try.f50 = some F50 := by kernel_rfl

/- milestone/hier.Check -/
def F54 : AFn := ⟨66, [.tmp 2],
 (.seq (.region [⟨some 1, (.box 6 (.tmp 0)), none⟩,
 ⟨some 2, (.move (.con (.bool false))), none⟩])
 (.seq (.seq (.region [⟨some 6, (.fieldAddr 0 (.tmp 1)), none⟩,
 ⟨some 7, (.loadN 2 (.tmp 6)), none⟩,
 ⟨some 8, (.call 94 [(.tmp 7)]), none⟩,
 ⟨some 9, (.un .not (.tmp 8)), none⟩,
 ⟨some 10, (.move (.tmp 9)), none⟩,
 ⟨some 11, (.fieldAddr 2 (.tmp 1)), some (10, false)⟩,
 ⟨some 12, (.load1 (.tmp 11)), some (10, false)⟩,
 ⟨some 13, (.lenS (.tmp 12)), some (10, false)⟩,
 ⟨some 14, (.fieldAddr 0 (.tmp 1)), some (10, false)⟩,
 ⟨some 15, (.fieldAddr 0 (.tmp 14)), some (10, false)⟩,
 ⟨some 16, (.load1 (.tmp 15)), some (10, false)⟩,
 ⟨some 17, (.bin .neq .prim (.tmp 13) (.tmp 16)), some (10, false)⟩,
 ⟨some 18, (.pick (.tmp 10) (.con (.bool true)) (.tmp 17)), none⟩,
 ⟨some 19, (.move (.tmp 18)), none⟩,
 ⟨some 20, (.fieldAddr 4 (.tmp 1)), some (19, false)⟩,
 ⟨some 21, (.load1 (.tmp 20)), some (19, false)⟩,
 ⟨some 22, (.lenS (.tmp 21)), some (19, false)⟩,
 ⟨some 23, (.fieldAddr 0 (.tmp 1)), some (19, false)⟩,
 ⟨some 24, (.fieldAddr 0 (.tmp 23)), some (19, false)⟩,
 ⟨some 25, (.load1 (.tmp 24)), some (19, false)⟩,
 ⟨some 26, (.bin .neq .prim (.tmp 22) (.tmp 25)), some (19, false)⟩,
 ⟨some 27, (.pick (.tmp 19) (.con (.bool true)) (.tmp 26)), none⟩,
 ⟨some 28, (.move (.tmp 27)), none⟩,
 ⟨some 29, (.fieldAddr 5 (.tmp 1)), some (28, false)⟩,
 ⟨some 30, (.load1 (.tmp 29)), some (28, false)⟩,
 ⟨some 31, (.lenS (.tmp 30)), some (28, false)⟩,
 ⟨some 32, (.fieldAddr 0 (.tmp 1)), some (28, false)⟩,
 ⟨some 33, (.fieldAddr 0 (.tmp 32)), some (28, false)⟩,
 ⟨some 34, (.load1 (.tmp 33)), some (28, false)⟩,
 ⟨some 35, (.bin .neq .prim (.tmp 31) (.tmp 34)), some (28, false)⟩,
 ⟨some 36, (.pick (.tmp 28) (.con (.bool true)) (.tmp 35)), none⟩,
 ⟨some 37, (.move (.tmp 36)), none⟩,
 ⟨some 38, (.fieldAddr 3 (.tmp 1)), some (37, false)⟩,
 ⟨some 39, (.load1 (.tmp 38)), some (37, false)⟩,
 ⟨some 40, (.lenS (.tmp 39)), some (37, false)⟩,
 ⟨some 41, (.bin .gtr .prim (.tmp 40) (.con (.int .i64 300000))), some (37, false)⟩,
 ⟨some 42, (.pick (.tmp 37) (.con (.bool true)) (.tmp 41)), none⟩,
 ⟨some 43, (.move (.tmp 42)), none⟩,
 ⟨some 44, (.fieldAddr 2 (.tmp 1)), some (43, false)⟩,
 ⟨some 45, (.load1 (.tmp 44)), some (43, false)⟩,
 ⟨some 46, (.call 95 [(.tmp 45)]), some (43, false)⟩,
 ⟨some 47, (.un .not (.tmp 46)), some (43, false)⟩,
 ⟨some 48, (.pick (.tmp 43) (.con (.bool true)) (.tmp 47)), none⟩])
 (.cond (.tmp 48)
 (.seq (.region [⟨some 2, (.move (.con (.bool false))), none⟩])
 .ret)
 .skip))
 (.seq (.region [⟨some 49, (.loadN 6 (.tmp 1)), none⟩,
 ⟨some 50, (.build [(.int .i64 0), .nilSlice, .nilSlice, .nilSlice, .nilSlice, .nilSlice] [(0, 6, (.tmp 49))]), none⟩,
 ⟨some 3, (.alloc [(.int .i64 0), .nilSlice, .nilSlice, .nilSlice, .nilSlice, .nilSlice]), none⟩,
 ⟨none, (.store 6 (.tmp 3) (.tmp 50)), none⟩])
 (.seq (.seq (.region [⟨some 51, (.loadN 6 (.tmp 3)), none⟩,
 ⟨some 52, (.call 96 [(.tmp 51)]), none⟩,
 ⟨some 53, (.un .not (.tmp 52)), none⟩])
 (.cond (.tmp 53)
 (.seq (.region [⟨some 2, (.move (.con (.bool false))), none⟩])
 .ret)
 .skip))
 (.seq (.region [⟨some 4, (.move (.con (.func (.func 97) [] []))), none⟩])
 (.seq (.seq (.region [⟨some 54, (.fieldAddr 0 (.tmp 1)), none⟩,
 ⟨some 55, (.fieldAddr 0 (.tmp 54)), none⟩,
 ⟨some 56, (.load1 (.tmp 55)), none⟩,
 ⟨some 57, (.move (.con (.int .i64 0))), none⟩])
 (.join [false, false, true] (.block 0 (.loop [false, false, false, true, true, false, false, false, false, false, false, false, false, false, false, false, false, false, false, false, false, false, false, false, false, false, false, false, false, false, false, false, false, false, false, false, false, false, false, false, false, false, false, false, false, false, false, false, false, false, false, false, false, false, false, false, true, true] [false, false, true]
 (.seq (.region [⟨some 58, (.bin .lss .prim (.tmp 57) (.tmp 56)), none⟩])
 (.seq (.cond (.tmp 58)
 .skip
 (.exit 0))
 (.seq (.block 1 (.seq (.region [⟨some 59, (.move (.tmp 57)), none⟩,
 ⟨some 5, (.move (.tmp 59)), none⟩])
 (.seq (.region [⟨some 60, (.move (.tmp 4)), none⟩,
 ⟨some 61, (.loadN 6 (.tmp 3)), none⟩,
 ⟨some 62, (.move (.tmp 5)), none⟩,
 ⟨some 63, (.callv (.tmp 60) [(.tmp 61), (.tmp 62)]), none⟩,
 ⟨some 64, (.un .not (.tmp 63)), none⟩])
 (.cond (.tmp 64)
 (.seq (.region [⟨some 2, (.move (.con (.bool false))), none⟩])
 .ret)
 .skip))))
 (.region [⟨some 65, (.bin .add .prim (.tmp 57) (.con (.int .i64 1))), none⟩,
 ⟨some 57, (.move (.tmp 65)), none⟩]))))))))
 (.seq (.region [⟨some 2, (.move (.con (.bool true))), none⟩])
 .ret)))))))⟩
theorem F54_ok : cfn tab F54.body Try.f54 = some F54 := by kernel_rfl

/- (*milestone/milestoneref11.work).begin -/
def F55 : AFn := ⟨102, [],
 (.seq (.region [⟨some 9, (.move (.tmp 0)), none⟩,
 ⟨some 10, (.nilCheck (.tmp 9)), none⟩,
 ⟨some 11, (.fieldAddr 0 (.tmp 10)), none⟩,
 ⟨some 12, (.fieldAddr 0 (.tmp 11)), none⟩,
 ⟨some 13, (.loadN 2 (.tmp 12)), none⟩,
 ⟨some 2, (.alloc [(.int .i64 0), .nilSlice]), none⟩,
 ⟨none, (.store 2 (.tmp 2) (.tmp 13)), none⟩])
 (.seq (.region [⟨some 14, (.fieldAddr 0 (.tmp 2)), none⟩,
 ⟨some 15, (.load1 (.tmp 14)), none⟩,
 ⟨some 16, (.fieldAddr 0 (.tmp 2)), none⟩,
 ⟨some 17, (.load1 (.tmp 16)), none⟩,
 ⟨some 18, (.bin .mul .prim (.tmp 15) (.tmp 17)), none⟩,
 ⟨some 19, (.bin .mul .prim (.tmp 18) (.con (.int .i64 5))), none⟩,
 ⟨some 20, (.mkSlice [(.int .i64 0)] 8 (.tmp 19) (.tmp 19)), none⟩,
 ⟨some 3, (.move (.tmp 20)), none⟩])
 (.seq (.seq (.region [⟨some 4, (.move (.con (.int .i64 0))), none⟩])
 (.join [true, false, true, true] (.block 0 (.loop [true, false, true, true, true] [true, false, true, true]
 (.seq (.seq (.region [⟨some 21, (.move (.tmp 4)), none⟩,
 ⟨some 22, (.fieldAddr 1 (.tmp 2)), none⟩,
 ⟨some 23, (.load1 (.tmp 22)), none⟩,
 ⟨some 24, (.lenS (.tmp 23)), none⟩,
 ⟨some 25, (.bin .lss .prim (.tmp 21) (.tmp 24)), none⟩])
 (.cond (.tmp 25)
 .skip
 (.exit 0)))
 (.seq (.block 1 (.seq (.region [⟨some 28, (.fieldAddr 1 (.tmp 2)), none⟩,
 ⟨some 29, (.load1 (.tmp 28)), none⟩,
 ⟨some 30, (.move (.tmp 4)), none⟩,
 ⟨some 31, (.indexAddrS 4 (.tmp 29) (.tmp 30)), none⟩,
 ⟨some 32, (.loadN 4 (.tmp 31)), none⟩,
 ⟨some 5, (.alloc [(.int .i64 0), (.int .i64 0), (.int .i64 0), (.int .i64 0)]), none⟩,
 ⟨none, (.store 4 (.tmp 5) (.tmp 32)), none⟩])
 (.seq (.region [⟨some 33, (.move (.tmp 0)), none⟩,
 ⟨some 34, (.fieldAddr 0 (.tmp 5)), none⟩,
 ⟨some 35, (.load1 (.tmp 34)), none⟩,
 ⟨some 36, (.fieldAddr 1 (.tmp 5)), none⟩,
 ⟨some 37, (.load1 (.tmp 36)), none⟩,
 ⟨some 38, (.fieldAddr 2 (.tmp 5)), none⟩,
 ⟨some 39, (.load1 (.tmp 38)), none⟩,
 ⟨some 40, (.call 98 [(.tmp 33), (.tmp 35), (.tmp 37), (.tmp 39)]), none⟩,
 ⟨some 6, (.move (.tmp 40)), none⟩])
 (.seq (.dregion [[], [], [1, 0], [0, 1, 2], [2, 1, 0, 3], [3, 0, 1, 2, 4], [4, 2, 1, 0, 3, 5], [5, 3, 0, 1, 2, 4, 6], [4, 2, 1, 0, 3, 5], [4, 2, 1, 0, 3, 5], [9, 5, 3, 0, 1, 2, 4, 8], [8, 4, 2, 1, 0, 3, 5, 9, 10], [10, 9, 5, 3, 0, 1, 2, 4, 8, 11], [11, 8, 9, 10, 12, 6, 4, 2, 1, 0, 3, 5, 7], [7, 5, 3, 0, 1, 2, 4, 6, 12, 10, 9, 8, 11, 13], [13, 11, 8, 9, 10, 12, 6, 4, 2, 1, 0, 3, 5, 7, 14], [4, 2, 1, 0, 3, 5], [5, 3, 0, 1, 2, 4, 16], [16, 17, 14, 7, 5, 3, 0, 1, 2, 4, 6, 12, 10, 9, 8, 11, 13, 15], [15, 13, 11, 8, 9, 10, 12, 6, 7, 14, 17, 16, 18, 4, 2, 1, 0, 3, 5]] [.op 0 ⟨some 41, (.move (.tmp 3)), none⟩,
 .op 1 ⟨some 42, (.move (.tmp 6)), none⟩,
 .op 2 ⟨some 43, (.indexAddrS 1 (.tmp 41) (.tmp 42)), none⟩,
 .op 3 ⟨some 44, (.load1 (.tmp 43)), none⟩,
 .op 4 ⟨some 45, (.bin .eql .prim (.tmp 44) (.con (.int .i64 0))), none⟩,
 .op 5 ⟨some 46, (.move (.tmp 45)), none⟩,
 .op 6 ⟨some 47, (.fieldAddr 1 (.tmp 2)), some (46, false)⟩,
 .op 7 ⟨some 48, (.load1 (.tmp 47)), some (46, false)⟩,
 .op 8 ⟨some 49, (.move (.tmp 3)), some (46, false)⟩,
 .op 9 ⟨some 50, (.move (.tmp 6)), some (46, false)⟩,
 .op 10 ⟨some 51, (.indexAddrS 1 (.tmp 49) (.tmp 50)), some (46, false)⟩,
 .op 11 ⟨some 52, (.load1 (.tmp 51)), some (46, false)⟩,
 .op 12 ⟨some 53, (.bin .sub .prim (.tmp 52) (.con (.int .i64 1))), some (46, false)⟩,
 .op 13 ⟨some 54, (.indexAddrS 4 (.tmp 48) (.tmp 53)), some (46, false)⟩,
 .op 14 ⟨some 55, (.fieldAddr 3 (.tmp 54)), some (46, false)⟩,
 .op 15 ⟨some 56, (.load1 (.tmp 55)), some (46, false)⟩,
 .op 16 ⟨some 57, (.fieldAddr 3 (.tmp 5)), some (46, false)⟩,
 .op 17 ⟨some 58, (.load1 (.tmp 57)), some (46, false)⟩,
 .op 18 ⟨some 59, (.bin .gtr .prim (.tmp 56) (.tmp 58)), some (46, false)⟩,
 .op 19 ⟨some 60, (.pick (.tmp 46) (.con (.bool true)) (.tmp 59)), none⟩])
 (.cond (.tmp 60)
 (.region [⟨some 61, (.move (.tmp 3)), none⟩,
 ⟨some 62, (.move (.tmp 6)), none⟩,
 ⟨some 63, (.move (.tmp 4)), none⟩,
 ⟨some 64, (.bin .add .prim (.tmp 63) (.con (.int .i64 1))), none⟩,
 ⟨some 65, (.indexAddrS 1 (.tmp 61) (.tmp 62)), none⟩,
 ⟨none, (.store 1 (.tmp 65) (.tmp 64)), none⟩])
 .skip)))))
 (.region [⟨some 26, (.move (.tmp 4)), none⟩,
 ⟨some 27, (.bin .add .prim (.tmp 26) (.con (.int .i64 1))), none⟩,
 ⟨some 4, (.move (.tmp 27)), none⟩])))))))
 (.seq (.region [⟨some 7, (.move (.con (.int .i64 0))), none⟩])
 (.block 2 (.loop [true, false, true, true, false, false, false, true] []
 (.seq (.seq (.region [⟨some 66, (.move (.tmp 7)), none⟩,
 ⟨some 67, (.move (.tmp 3)), none⟩,
 ⟨some 68, (.lenS (.tmp 67)), none⟩,
 ⟨some 69, (.bin .lss .prim (.tmp 66) (.tmp 68)), none⟩])
 (.cond (.tmp 69)
 .skip
 (.exit 2)))
 (.seq (.block 3 (.seq (.region [⟨some 72, (.move (.tmp 3)), none⟩,
 ⟨some 73, (.move (.tmp 7)), none⟩,
 ⟨some 74, (.indexAddrS 1 (.tmp 72) (.tmp 73)), none⟩,
 ⟨some 75, (.load1 (.tmp 74)), none⟩,
 ⟨some 76, (.bin .gtr .prim (.tmp 75) (.con (.int .i64 0))), none⟩])
 (.cond (.tmp 76)
 (.seq (.dregion [[], [0], [], [], [3, 2], [2, 3, 4], [4, 3, 2, 5], [5, 2, 3, 4, 6, 0, 1], [1, 0, 6, 4, 3, 2, 5, 7], [], [7, 5, 2, 3, 4, 6, 0, 1, 8, 9]] [.op 0 ⟨some 77, (.fieldAddr 1 (.tmp 2)), none⟩,
 .op 1 ⟨some 78, (.load1 (.tmp 77)), none⟩,
 .op 2 ⟨some 79, (.move (.tmp 3)), none⟩,
 .op 3 ⟨some 80, (.move (.tmp 7)), none⟩,
 .op 4 ⟨some 81, (.indexAddrS 1 (.tmp 79) (.tmp 80)), none⟩,
 .op 5 ⟨some 82, (.load1 (.tmp 81)), none⟩,
 .op 6 ⟨some 83, (.bin .sub .prim (.tmp 82) (.con (.int .i64 1))), none⟩,
 .op 7 ⟨some 84, (.indexAddrS 4 (.tmp 78) (.tmp 83)), none⟩,
 .op 8 ⟨some 85, (.loadN 4 (.tmp 84)), none⟩,
 .op 9 ⟨some 8, (.alloc [(.int .i64 0), (.int .i64 0), (.int .i64 0), (.int .i64 0)]), none⟩,
 .op 10 ⟨none, (.store 4 (.tmp 8) (.tmp 85)), none⟩])
 (.dregion [[], [], [1], [], [3], [], [5], [], [7], [], [], [10, 9], [9, 10, 11], [11, 10, 9, 12], [12, 9, 10, 11, 13, 7, 8, 5, 6, 3, 4, 1, 2], [2, 1, 4, 3, 6, 5, 8, 7, 13, 11, 10, 9, 12, 14, 0]] [.op 0 ⟨some 86, (.move (.tmp 0)), none⟩,
 .op 1 ⟨some 87, (.fieldAddr 0 (.tmp 8)), none⟩,
 .op 2 ⟨some 88, (.load1 (.tmp 87)), none⟩,
 .op 3 ⟨some 89, (.fieldAddr 1 (.tmp 8)), none⟩,
 .op 4 ⟨some 90, (.load1 (.tmp 89)), none⟩,
 .op 5 ⟨some 91, (.fieldAddr 2 (.tmp 8)), none⟩,
 .op 6 ⟨some 92, (.load1 (.tmp 91)), none⟩,
 .op 7 ⟨some 93, (.fieldAddr 3 (.tmp 8)), none⟩,
 .op 8 ⟨some 94, (.load1 (.tmp 93)), none⟩,
 .op 9 ⟨some 95, (.move (.tmp 3)), none⟩,
 .op 10 ⟨some 96, (.move (.tmp 7)), none⟩,
 .op 11 ⟨some 97, (.indexAddrS 1 (.tmp 95) (.tmp 96)), none⟩,
 .op 12 ⟨some 98, (.load1 (.tmp 97)), none⟩,
 .op 13 ⟨some 99, (.bin .sub .prim (.tmp 98) (.con (.int .i64 1))), none⟩,
 .op 14 ⟨some 100, (.build [(.int .i64 0), (.int .i64 0), (.int .i64 0), (.int .i64 0), (.int .i64 0), (.int .i64 0), (.int .i64 0)] [(0, 1, (.tmp 88)), (1, 1, (.tmp 90)), (2, 1, (.tmp 92)), (3, 1, (.tmp 94)), (4, 1, (.tmp 99))]), none⟩,
 .op 15 ⟨some 101, (.call 99 [(.tmp 86), (.tmp 100)]), none⟩]))
 .skip)))
 (.region [⟨some 70, (.move (.tmp 7)), none⟩,
 ⟨some 71, (.bin .add .prim (.tmp 70) (.con (.int .i64 1))), none⟩,
 ⟨some 7, (.move (.tmp 71)), none⟩])))))))))⟩
theorem F55_ok : cfn tab F55.body Try.f55 = some F55 := by kernel_rfl

/- (*milestone/milestoneref11.work).out -/
def F56 : AFn := ⟨52, [.tmp 4],
 (.seq (.region [⟨some 4, (.move (.con .nilSlice)), none⟩])
 (.seq (.region [⟨some 5, (.move (.con .nilSlice)), none⟩])
 (.seq (.seq (.region [⟨some 6, (.move (.con (.int .i64 0))), none⟩])
 (.join [false, false, false, false, true, true] (.block 0 (.loop [true, true, false, false, false, true, true] [false, false, false, false, true, true]
 (.seq (.seq (.region [⟨some 9, (.move (.tmp 6)), none⟩,
 ⟨some 10, (.move (.tmp 0)), none⟩,
 ⟨some 11, (.nilCheck (.tmp 10)), none⟩,
 ⟨some 12, (.fieldAddr 0 (.tmp 11)), none⟩,
 ⟨some 13, (.fieldAddr 0 (.tmp 12)), none⟩,
 ⟨some 14, (.fieldAddr 0 (.tmp 13)), none⟩,
 ⟨some 15, (.load1 (.tmp 14)), none⟩,
 ⟨some 16, (.bin .lss .prim (.tmp 9) (.tmp 15)), none⟩])
 (.cond (.tmp 16)
 .skip
 (.exit 0)))
 (.seq (.block 1 (.seq (.region [⟨some 7, (.move (.con (.int .i64 0))), none⟩])
 (.block 2 (.loop [true, true, false, false, false, true, true, true] [true, true, false, false, true, true, true]
 (.seq (.seq (.region [⟨some 19, (.move (.tmp 7)), none⟩,
 ⟨some 20, (.bin .lss .prim (.tmp 19) (.con (.int .i64 5))), none⟩])
 (.cond (.tmp 20)
 .skip
 (.exit 2)))
 (.seq (.block 3 (.seq (.dregion [[], [0], [0, 1], [1, 0, 2], [], [], [], [], [7, 6, 5, 4], [4, 5, 6, 7, 8, 2, 0, 1, 3], [3, 1, 0, 2, 8, 7, 6, 5, 4, 9], [9, 4, 5, 6, 7, 8, 2, 0, 1, 3, 10]] [.op 0 ⟨some 23, (.move (.tmp 0)), none⟩,
 .op 1 ⟨some 24, (.nilCheck (.tmp 23)), none⟩,
 .op 2 ⟨some 25, (.fieldAddr 6 (.tmp 24)), none⟩,
 .op 3 ⟨some 26, (.load1 (.tmp 25)), none⟩,
 .op 4 ⟨some 27, (.move (.tmp 0)), none⟩,
 .op 5 ⟨some 28, (.move (.tmp 1)), none⟩,
 .op 6 ⟨some 29, (.move (.tmp 6)), none⟩,
 .op 7 ⟨some 30, (.move (.tmp 7)), none⟩,
 .op 8 ⟨some 31, (.call 98 [(.tmp 27), (.tmp 28), (.tmp 29), (.tmp 30)]), none⟩,
 .re 3 ⟨some 26, (.load1 (.tmp 25)), none⟩,
 .op 9 ⟨some 32, (.indexAddrS 1 (.tmp 26) (.tmp 31)), none⟩,
 .op 10 ⟨some 33, (.load1 (.tmp 32)), none⟩,
 .op 11 ⟨some 8, (.move (.tmp 33)), none⟩])
 (.seq (.region [⟨some 34, (.move (.tmp 8)), none⟩,
 ⟨some 35, (.bin .gtr .prim (.tmp 34) (.con (.int .i64 0))), none⟩,
 ⟨some 36, (.move (.tmp 35)), none⟩,
 ⟨some 37, (.move (.tmp 0)), some (36, true)⟩,
 ⟨some 38, (.nilCheck (.tmp 37)), some (36, true)⟩,
 ⟨some 39, (.fieldAddr 7 (.tmp 38)), some (36, true)⟩,
 ⟨some 40, (.load1 (.tmp 39)), some (36, true)⟩,
 ⟨some 41, (.move (.tmp 6)), some (36, true)⟩,
 ⟨some 42, (.indexAddrS 1 (.tmp 40) (.tmp 41)), some (36, true)⟩,
 ⟨some 43, (.load1 (.tmp 42)), some (36, true)⟩,
 ⟨some 44, (.un .not (.tmp 43)), some (36, true)⟩,
 ⟨some 45, (.pick (.tmp 36) (.tmp 44) (.con (.bool false))), none⟩])
 (.cond (.tmp 45)
 (.region [⟨some 46, (.move (.tmp 5)), none⟩,
 ⟨some 47, (.move (.tmp 8)), none⟩,
 ⟨some 48, (.bin .sub .prim (.tmp 47) (.con (.int .i64 1))), none⟩,
 ⟨some 49, (.buildSlice [(.int .i64 0)] 1 [(0, 1, (.tmp 48))]), none⟩,
 ⟨some 50, (.append 1 8 (.tmp 46) (.tmp 49)), none⟩,
 ⟨some 5, (.move (.tmp 50)), none⟩])
 .skip))))
 (.region [⟨some 21, (.move (.tmp 7)), none⟩,
 ⟨some 22, (.bin .add .prim (.tmp 21) (.con (.int .i64 1))), none⟩,
 ⟨some 7, (.move (.tmp 22)), none⟩])))))))
 (.region [⟨some 17, (.move (.tmp 6)), none⟩,
 ⟨some 18, (.bin .add .prim (.tmp 17) (.con (.int .i64 1))), none⟩,
 ⟨some 6, (.move (.tmp 18)), none⟩])))))))
 (.seq (.region [⟨some 51, (.move (.tmp 5)), none⟩,
 ⟨some 4, (.move (.tmp 51)), none⟩])
 .ret))))⟩
theorem F56_ok : cfn tab F56.body Try.f56 = some F56 := by kernel_rfl

/- (*milestone/milestoneref11.work).in -/
def F57 : AFn := ⟨57, [.tmp 4],
 (.seq (.region [⟨some 4, (.move (.con .nilSlice)), none⟩])
 (.seq (.region [⟨some 5, (.move (.con .nilSlice)), none⟩])
 (.seq (.seq (.region [⟨some 6, (.move (.con (.int .i64 0))), none⟩])
 (.join [false, false, false, false, true, true] (.block 0 (.loop [true, true, false, false, false, true, true] [false, false, false, false, true, true]
 (.seq (.seq (.region [⟨some 9, (.move (.tmp 6)), none⟩,
 ⟨some 10, (.move (.tmp 0)), none⟩,
 ⟨some 11, (.nilCheck (.tmp 10)), none⟩,
 ⟨some 12, (.fieldAddr 0 (.tmp 11)), none⟩,
 ⟨some 13, (.fieldAddr 0 (.tmp 12)), none⟩,
 ⟨some 14, (.fieldAddr 0 (.tmp 13)), none⟩,
 ⟨some 15, (.load1 (.tmp 14)), none⟩,
 ⟨some 16, (.bin .lss .prim (.tmp 9) (.tmp 15)), none⟩])
 (.cond (.tmp 16)
 .skip
 (.exit 0)))
 (.seq (.block 1 (.seq (.region [⟨some 7, (.move (.con (.int .i64 0))), none⟩])
 (.block 2 (.loop [true, true, false, false, false, true, true, true] [true, true, false, false, true, true, true]
 (.seq (.seq (.region [⟨some 19, (.move (.tmp 7)), none⟩,
 ⟨some 20, (.bin .lss .prim (.tmp 19) (.con (.int .i64 5))), none⟩,
 ⟨some 21, (.move (.tmp 20)), none⟩,
 ⟨some 22, (.move (.tmp 6)), some (21, true)⟩,
 ⟨some 23, (.move (.tmp 1)), some (21, true)⟩,
 ⟨some 24, (.bin .neq .prim (.tmp 22) (.tmp 23)), some (21, true)⟩,
 ⟨some 25, (.pick (.tmp 21) (.tmp 24) (.con (.bool false))), none⟩])
 (.cond (.tmp 25)
 .skip
 (.exit 2)))
 (.seq (.block 3 (.seq (.dregion [[], [0], [0, 1], [1, 0, 2], [], [], [], [], [7, 6, 5, 4], [4, 5, 6, 7, 8, 2, 0, 1, 3], [3, 1, 0, 2, 8, 7, 6, 5, 4, 9], [9, 4, 5, 6, 7, 8, 2, 0, 1, 3, 10]] [.op 0 ⟨some 28, (.move (.tmp 0)), none⟩,
 .op 1 ⟨some 29, (.nilCheck (.tmp 28)), none⟩,
 .op 2 ⟨some 30, (.fieldAddr 6 (.tmp 29)), none⟩,
 .op 3 ⟨some 31, (.load1 (.tmp 30)), none⟩,
 .op 4 ⟨some 32, (.move (.tmp 0)), none⟩,
 .op 5 ⟨some 33, (.move (.tmp 6)), none⟩,
 .op 6 ⟨some 34, (.move (.tmp 1)), none⟩,
 .op 7 ⟨some 35, (.move (.tmp 7)), none⟩,
 .op 8 ⟨some 36, (.call 98 [(.tmp 32), (.tmp 33), (.tmp 34), (.tmp 35)]), none⟩,
 .re 3 ⟨some 31, (.load1 (.tmp 30)), none⟩,
 .op 9 ⟨some 37, (.indexAddrS 1 (.tmp 31) (.tmp 36)), none⟩,
 .op 10 ⟨some 38, (.load1 (.tmp 37)), none⟩,
 .op 11 ⟨some 8, (.move (.tmp 38)), none⟩])
 (.seq (.region [⟨some 39, (.move (.tmp 8)), none⟩,
 ⟨some 40, (.bin .gtr .prim (.tmp 39) (.con (.int .i64 0))), none⟩,
 ⟨some 41, (.move (.tmp 40)), none⟩,
 ⟨some 42, (.move (.tmp 0)), some (41, true)⟩,
 ⟨some 43, (.nilCheck (.tmp 42)), some (41, true)⟩,
 ⟨some 44, (.fieldAddr 7 (.tmp 43)), some (41, true)⟩,
 ⟨some 45, (.load1 (.tmp 44)), some (41, true)⟩,
 ⟨some 46, (.move (.tmp 6)), some (41, true)⟩,
 ⟨some 47, (.indexAddrS 1 (.tmp 45) (.tmp 46)), some (41, true)⟩,
 ⟨some 48, (.load1 (.tmp 47)), some (41, true)⟩,
 ⟨some 49, (.un .not (.tmp 48)), some (41, true)⟩,
 ⟨some 50, (.pick (.tmp 41) (.tmp 49) (.con (.bool false))), none⟩])
 (.cond (.tmp 50)
 (.region [⟨some 51, (.move (.tmp 5)), none⟩,
 ⟨some 52, (.move (.tmp 8)), none⟩,
 ⟨some 53, (.bin .sub .prim (.tmp 52) (.con (.int .i64 1))), none⟩,
 ⟨some 54, (.buildSlice [(.int .i64 0)] 1 [(0, 1, (.tmp 53))]), none⟩,
 ⟨some 55, (.append 1 8 (.tmp 51) (.tmp 54)), none⟩,
 ⟨some 5, (.move (.tmp 55)), none⟩])
 .skip))))
 (.region [⟨some 26, (.move (.tmp 7)), none⟩,
 ⟨some 27, (.bin .add .prim (.tmp 26) (.con (.int .i64 1))), none⟩,
 ⟨some 7, (.move (.tmp 27)), none⟩])))))))
 (.region [⟨some 17, (.move (.tmp 6)), none⟩,
 ⟨some 18, (.bin .add .prim (.tmp 17) (.con (.int .i64 1))), none⟩,
 ⟨some 6, (.move (.tmp 18)), none⟩])))))))
 (.seq (.region [⟨some 56, (.move (.tmp 5)), none⟩,
 ⟨some 4, (.move (.tmp 56)), none⟩])
 .ret))))⟩
theorem F57_ok : cfn tab F57.body Try.f57 = some F57 := by kernel_rfl

/- (*milestone/milestoneref11.work).short -/
def F58 : AFn := ⟨87, [],
 (.seq (.dregion [[], [0], [0, 1], [1, 0, 2], [2, 0, 1, 3], [], [5, 3, 1, 0, 2, 4], [4, 2, 0, 1, 3, 5, 6], [], [8], [8, 9], [9, 8, 10], [10, 8, 9, 11], [], [13, 11, 9, 8, 10, 12], [12, 10, 8, 9, 11, 13, 14], [], [], [17, 6, 5, 3, 1, 0, 2, 4, 7, 16], [16, 7, 4, 2, 0, 1, 3, 5, 6, 18, 14, 13, 11, 9, 8, 10, 12, 15, 17]] [.op 0 ⟨some 9, (.move (.tmp 0)), none⟩,
 .op 1 ⟨some 10, (.nilCheck (.tmp 9)), none⟩,
 .op 2 ⟨some 11, (.fieldAddr 0 (.tmp 10)), none⟩,
 .op 3 ⟨some 12, (.fieldAddr 3 (.tmp 11)), none⟩,
 .op 4 ⟨some 13, (.load1 (.tmp 12)), none⟩,
 .op 5 ⟨some 14, (.move (.tmp 1)), none⟩,
 .op 6 ⟨some 15, (.indexAddrS 7 (.tmp 13) (.tmp 14)), none⟩,
 .op 7 ⟨some 16, (.loadN 7 (.tmp 15)), none⟩,
 .op 8 ⟨some 17, (.move (.tmp 0)), none⟩,
 .op 9 ⟨some 18, (.nilCheck (.tmp 17)), none⟩,
 .op 10 ⟨some 19, (.fieldAddr 0 (.tmp 18)), none⟩,
 .op 11 ⟨some 20, (.fieldAddr 3 (.tmp 19)), none⟩,
 .op 12 ⟨some 21, (.load1 (.tmp 20)), none⟩,
 .op 13 ⟨some 22, (.move (.tmp 2)), none⟩,
 .op 14 ⟨some 23, (.indexAddrS 7 (.tmp 21) (.tmp 22)), none⟩,
 .op 15 ⟨some 24, (.loadN 7 (.tmp 23)), none⟩,
 .op 16 ⟨some 6, (.alloc [(.int .i64 0), (.int .i64 0), (.int .i64 0), (.int .i64 0), (.int .i64 0), (.int .i64 0), (.int .i64 0)]), none⟩,
 .op 17 ⟨some 7, (.alloc [(.int .i64 0), (.int .i64 0), (.int .i64 0), (.int .i64 0), (.int .i64 0), (.int .i64 0), (.int .i64 0)]), none⟩,
 .op 18 ⟨none, (.store 7 (.tmp 6) (.tmp 16)), none⟩,
 .re 12 ⟨some 21, (.load1 (.tmp 20)), none⟩,
 .re 15 ⟨some 24, (.loadN 7 (.tmp 23)), none⟩,
 .op 19 ⟨none, (.store 7 (.tmp 7) (.tmp 24)), none⟩])
 (.seq (.seq (.region [⟨some 25, (.fieldAddr 2 (.tmp 6)), none⟩,
 ⟨some 26, (.load1 (.tmp 25)), none⟩,
 ⟨some 27, (.fieldAddr 2 (.tmp 7)), none⟩,
 ⟨some 28, (.load1 (.tmp 27)), none⟩,
 ⟨some 29, (.bin .neq .prim (.tmp 26) (.tmp 28)), none⟩,
 ⟨some 30, (.move (.tmp 29)), none⟩,
 ⟨some 31, (.fieldAddr 1 (.tmp 7)), some (30, false)⟩,
 ⟨some 32, (.load1 (.tmp 31)), some (30, false)⟩,
 ⟨some 33, (.fieldAddr 1 (.tmp 6)), some (30, false)⟩,
 ⟨some 34, (.load1 (.tmp 33)), some (30, false)⟩,
 ⟨some 35, (.bin .eql .prim (.tmp 32) (.tmp 34)), some (30, false)⟩,
 ⟨some 36, (.pick (.tmp 30) (.con (.bool true)) (.tmp 35)), none⟩])
 (.cond (.tmp 36)
 .ret
 .skip))
 (.seq (.dregion [[], [0], [0, 1], [1, 0, 2], [], [], [5], [], [7], [], [9], [9, 10, 7, 8, 5, 6, 4], [4, 6, 5, 8, 7, 10, 9, 11, 2, 0, 1, 3], [3, 1, 0, 2, 11, 9, 10, 7, 8, 5, 6, 4, 12], [12, 4, 6, 5, 8, 7, 10, 9, 11, 2, 0, 1, 3, 13]] [.op 0 ⟨some 37, (.move (.tmp 0)), none⟩,
 .op 1 ⟨some 38, (.nilCheck (.tmp 37)), none⟩,
 .op 2 ⟨some 39, (.fieldAddr 6 (.tmp 38)), none⟩,
 .op 3 ⟨some 40, (.load1 (.tmp 39)), none⟩,
 .op 4 ⟨some 41, (.move (.tmp 0)), none⟩,
 .op 5 ⟨some 42, (.fieldAddr 0 (.tmp 6)), none⟩,
 .op 6 ⟨some 43, (.load1 (.tmp 42)), none⟩,
 .op 7 ⟨some 44, (.fieldAddr 1 (.tmp 7)), none⟩,
 .op 8 ⟨some 45, (.load1 (.tmp 44)), none⟩,
 .op 9 ⟨some 46, (.fieldAddr 2 (.tmp 6)), none⟩,
 .op 10 ⟨some 47, (.load1 (.tmp 46)), none⟩,
 .op 11 ⟨some 48, (.call 98 [(.tmp 41), (.tmp 43), (.tmp 45), (.tmp 47)]), none⟩,
 .re 3 ⟨some 40, (.load1 (.tmp 39)), none⟩,
 .op 12 ⟨some 49, (.indexAddrS 1 (.tmp 40) (.tmp 48)), none⟩,
 .op 13 ⟨some 50, (.load1 (.tmp 49)), none⟩,
 .op 14 ⟨some 8, (.move (.tmp 50)), none⟩])
 (.seq (.dregion [[], [0], [0, 1], [1, 0, 2], [2, 0, 1, 3], [3, 1, 0, 2, 4], [4, 2, 0, 1, 3, 5], [5, 3, 1, 0, 2, 4, 6], [1, 0, 2], [2, 0, 1, 8], [8, 9, 6, 4, 2, 0, 1, 3, 5, 7], [7, 5, 3, 1, 0, 2, 4, 6, 9, 8, 10], [10, 8, 9, 6, 4, 2, 0, 1, 3, 5, 7, 11], [1, 0, 2], [2, 0, 1, 13], [1, 0, 2], [2, 0, 1, 15], [15, 16, 13, 1, 0, 2, 14], [14, 13, 16, 15, 17, 11, 7, 5, 3, 1, 0, 2, 4, 6, 9, 8, 10, 12], [12, 10, 8, 9, 6, 4, 3, 5, 7, 11, 17, 15, 16, 13, 14, 18, 1, 0, 2]] [.op 0 ⟨some 51, (.move (.tmp 8)), none⟩,
 .op 1 ⟨some 52, (.bin .eql .prim (.tmp 51) (.con (.int .i64 0))), none⟩,
 .op 2 ⟨some 53, (.move (.tmp 52)), none⟩,
 .op 3 ⟨some 54, (.move (.tmp 0)), some (53, false)⟩,
 .op 4 ⟨some 55, (.nilCheck (.tmp 54)), some (53, false)⟩,
 .op 5 ⟨some 56, (.fieldAddr 0 (.tmp 55)), some (53, false)⟩,
 .op 6 ⟨some 57, (.fieldAddr 3 (.tmp 56)), some (53, false)⟩,
 .op 7 ⟨some 58, (.load1 (.tmp 57)), some (53, false)⟩,
 .op 8 ⟨some 59, (.move (.tmp 8)), some (53, false)⟩,
 .op 9 ⟨some 60, (.bin .sub .prim (.tmp 59) (.con (.int .i64 1))), some (53, false)⟩,
 .op 10 ⟨some 61, (.indexAddrS 7 (.tmp 58) (.tmp 60)), some (53, false)⟩,
 .op 11 ⟨some 62, (.fieldAddr 3 (.tmp 61)), some (53, false)⟩,
 .op 12 ⟨some 63, (.load1 (.tmp 62)), some (53, false)⟩,
 .op 13 ⟨some 64, (.fieldAddr 3 (.tmp 6)), some (53, false)⟩,
 .op 14 ⟨some 65, (.load1 (.tmp 64)), some (53, false)⟩,
 .op 15 ⟨some 66, (.fieldAddr 3 (.tmp 7)), some (53, false)⟩,
 .op 16 ⟨some 67, (.load1 (.tmp 66)), some (53, false)⟩,
 .op 17 ⟨some 68, (.bin .add .prim (.tmp 65) (.tmp 67)), some (53, false)⟩,
 .op 18 ⟨some 69, (.bin .gtr .prim (.tmp 63) (.tmp 68)), some (53, false)⟩,
 .op 19 ⟨some 70, (.pick (.tmp 53) (.con (.bool true)) (.tmp 69)), none⟩])
 (.cond (.tmp 70)
 (.region [⟨some 71, (.move (.tmp 0)), none⟩,
 ⟨some 72, (.fieldAddr 0 (.tmp 6)), none⟩,
 ⟨some 73, (.load1 (.tmp 72)), none⟩,
 ⟨some 74, (.fieldAddr 1 (.tmp 7)), none⟩,
 ⟨some 75, (.load1 (.tmp 74)), none⟩,
 ⟨some 76, (.fieldAddr 2 (.tmp 6)), none⟩,
 ⟨some 77, (.load1 (.tmp 76)), none⟩,
 ⟨some 78, (.fieldAddr 3 (.tmp 6)), none⟩,
 ⟨some 79, (.load1 (.tmp 78)), none⟩,
 ⟨some 80, (.fieldAddr 3 (.tmp 7)), none⟩,
 ⟨some 81, (.load1 (.tmp 80)), none⟩,
 ⟨some 82, (.bin .add .prim (.tmp 79) (.tmp 81)), none⟩,
 ⟨some 83, (.move (.tmp 1)), none⟩,
 ⟨some 84, (.move (.tmp 2)), none⟩,
 ⟨some 85, (.build [(.int .i64 0), (.int .i64 0), (.int .i64 0), (.int .i64 0), (.int .i64 0), (.int .i64 0), (.int .i64 0)] [(0, 1, (.tmp 73)), (1, 1, (.tmp 75)), (2, 1, (.tmp 77)), (3, 1, (.tmp 82)), (4, 1, (.con (.int .i64 (-1)))), (5, 1, (.tmp 83)), (6, 1, (.tmp 84))]), none⟩,
 ⟨some 86, (.call 99 [(.tmp 71), (.tmp 85)]), none⟩])
 .skip)))))⟩
theorem F58_ok : cfn tab F58.body Try.f58 = some F58 := by kernel_rfl

/- milestone/milestonelaw1.within -/
def F59 : AFn := ⟨15, [.tmp 4],
 (.seq (.region [⟨some 4, (.move (.con (.int .i64 0))), none⟩])
 (.seq (.region [⟨some 6, (.move (.tmp 0)), none⟩,
 ⟨some 7, (.move (.tmp 1)), none⟩,
 ⟨some 8, (.bin .rem .prim (.tmp 6) (.tmp 7)), none⟩,
 ⟨some 5, (.move (.tmp 8)), none⟩])
 (.seq (.seq (.region [⟨some 9, (.move (.tmp 5)), none⟩,
 ⟨some 10, (.bin .lss .prim (.tmp 9) (.con (.int .i64 0))), none⟩])
 (.join [false, false, false, false, true, true] (.cond (.tmp 10)
 (.region [⟨some 11, (.move (.tmp 5)), none⟩,
 ⟨some 12, (.move (.tmp 1)), none⟩,
 ⟨some 13, (.bin .add .prim (.tmp 11) (.tmp 12)), none⟩,
 ⟨some 5, (.move (.tmp 13)), none⟩])
 .skip)))
 (.seq (.region [⟨some 14, (.move (.tmp 5)), none⟩,
 ⟨some 4, (.move (.tmp 14)), none⟩])
 .ret))))⟩
theorem F59_ok : cfn tab F59.body Try.f59 = some F59 := by kernel_rfl

/- (*milestone/index.writer).four -/
def F60 : AFn := ⟨33, [],
 (.seq (.region [⟨some 6, (.move (.tmp 1)), none⟩,
 ⟨some 7, (.lenS (.tmp 6)), none⟩,
 ⟨some 8, (.move (.con (.int .i64 0))), none⟩])
 (.block 0 (.loop [true, false, false, false, false, false, true, true, true] []
 (.seq (.region [⟨some 9, (.bin .lss .prim (.tmp 8) (.tmp 7)), none⟩])
 (.seq (.cond (.tmp 9)
 .skip
 (.exit 0))
 (.seq (.block 1 (.seq (.region [⟨some 10, (.indexAddrS 1 (.tmp 6) (.tmp 8)), none⟩,
 ⟨some 11, (.load1 (.tmp 10)), none⟩,
 ⟨some 5, (.move (.tmp 11)), none⟩])
 (.region [⟨some 12, (.move (.tmp 0)), none⟩,
 ⟨some 13, (.move (.tmp 0)), none⟩,
 ⟨some 14, (.nilCheck (.tmp 13)), none⟩,
 ⟨some 15, (.fieldAddr 0 (.tmp 14)), none⟩,
 ⟨some 16, (.load1 (.tmp 15)), none⟩,
 ⟨some 17, (.move (.tmp 5)), none⟩,
 ⟨some 18, (.bin .shr .prim (.tmp 17) (.con (.int .u64 24))), none⟩,
 ⟨some 19, (.toInt .u8 (.tmp 18)), none⟩,
 ⟨some 20, (.move (.tmp 5)), none⟩,
 ⟨some 21, (.bin .shr .prim (.tmp 20) (.con (.int .u64 16))), none⟩,
 ⟨some 22, (.toInt .u8 (.tmp 21)), none⟩,
 ⟨some 23, (.move (.tmp 5)), none⟩,
 ⟨some 24, (.bin .shr .prim (.tmp 23) (.con (.int .u64 8))), none⟩,
 ⟨some 25, (.toInt .u8 (.tmp 24)), none⟩,
 ⟨some 26, (.move (.tmp 5)), none⟩,
 ⟨some 27, (.toInt .u8 (.tmp 26)), none⟩,
 ⟨some 28, (.buildSlice [(.int .u8 0), (.int .u8 0), (.int .u8 0), (.int .u8 0)] 4 [(0, 1, (.tmp 19)), (1, 1, (.tmp 22)), (2, 1, (.tmp 25)), (3, 1, (.tmp 27))]), none⟩,
 ⟨some 29, (.append 1 1 (.tmp 16) (.tmp 28)), none⟩,
 ⟨some 30, (.nilCheck (.tmp 12)), none⟩,
 ⟨some 31, (.fieldAddr 0 (.tmp 30)), none⟩,
 ⟨none, (.store 1 (.tmp 31) (.tmp 29)), none⟩])))
 (.region [⟨some 32, (.bin .add .prim (.tmp 8) (.con (.int .i64 1))), none⟩,
 ⟨some 8, (.move (.tmp 32)), none⟩])))))))⟩
theorem F60_ok : cfn tab F60.body Try.f60 = some F60 := by kernel_rfl

/- (*milestone/index.writer).eight -/
def F61 : AFn := ⟨10, [],
 (.region [⟨some 4, (.move (.tmp 0)), none⟩,
 ⟨some 5, (.move (.tmp 1)), none⟩,
 ⟨some 6, (.bin .shr .prim (.tmp 5) (.con (.int .u64 32))), none⟩,
 ⟨some 7, (.move (.tmp 1)), none⟩,
 ⟨some 8, (.buildSlice [(.int .i64 0), (.int .i64 0)] 2 [(0, 1, (.tmp 6)), (1, 1, (.tmp 7))]), none⟩,
 ⟨some 9, (.call 60 [(.tmp 4), (.tmp 8)]), none⟩])⟩
theorem F61_ok : cfn tab F61.body Try.f61 = some F61 := by kernel_rfl

end Go.Proofs.Ytknhlpmmalcchaa
