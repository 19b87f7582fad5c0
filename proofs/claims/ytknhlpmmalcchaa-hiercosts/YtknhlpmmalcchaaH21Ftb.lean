/- Functions of the program as the interpreter takes them (printed by a program). -/
import Derived.Test.YtknhlpmmalcchaaH21Ft
set_option linter.all false
set_option linter.unusedVariables false
set_option linter.unusedSimpArgs false
namespace Go.Proofs.Ytknhlpmmalcchaa
open Go Go.VAI Go.Proofs
/- (*milestone/hier.builder).around -/
def F124 : AFn := ⟨81, [],
 (.seq (.dregion [[], [0], [0, 1], [1, 0, 2], [2, 0, 1, 3], [], [5, 3, 1, 0, 2, 4], [4, 2, 0, 1, 3, 5, 6], [], [8], [8, 9], [9, 8, 10], [10, 8, 9, 11], [], [13, 11, 9, 8, 10, 12], [12, 10, 8, 9, 11, 13, 14], [], [], [17, 6, 5, 3, 1, 0, 2, 4, 7, 16], [16, 7, 4, 2, 0, 1, 3, 5, 6, 18, 14, 13, 11, 9, 8, 10, 12, 15, 17]] [.op 0 ⟨some 10, (.move (.tmp 0)), none⟩,
 .op 1 ⟨some 11, (.nilCheck (.tmp 10)), none⟩,
 .op 2 ⟨some 12, (.fieldAddr 0 (.tmp 11)), none⟩,
 .op 3 ⟨some 13, (.fieldAddr 3 (.tmp 12)), none⟩,
 .op 4 ⟨some 14, (.load1 (.tmp 13)), none⟩,
 .op 5 ⟨some 15, (.move (.tmp 1)), none⟩,
 .op 6 ⟨some 16, (.indexAddrS 7 (.tmp 14) (.tmp 15)), none⟩,
 .op 7 ⟨some 17, (.loadN 7 (.tmp 16)), none⟩,
 .op 8 ⟨some 18, (.move (.tmp 0)), none⟩,
 .op 9 ⟨some 19, (.nilCheck (.tmp 18)), none⟩,
 .op 10 ⟨some 20, (.fieldAddr 0 (.tmp 19)), none⟩,
 .op 11 ⟨some 21, (.fieldAddr 3 (.tmp 20)), none⟩,
 .op 12 ⟨some 22, (.load1 (.tmp 21)), none⟩,
 .op 13 ⟨some 23, (.move (.tmp 2)), none⟩,
 .op 14 ⟨some 24, (.indexAddrS 7 (.tmp 22) (.tmp 23)), none⟩,
 .op 15 ⟨some 25, (.loadN 7 (.tmp 24)), none⟩,
 .op 16 ⟨some 6, (.alloc [(.int .i64 0), (.int .i64 0), (.int .i64 0), (.int .i64 0), (.int .i64 0), (.int .i64 0), (.int .i64 0)]), none⟩,
 .op 17 ⟨some 7, (.alloc [(.int .i64 0), (.int .i64 0), (.int .i64 0), (.int .i64 0), (.int .i64 0), (.int .i64 0), (.int .i64 0)]), none⟩,
 .op 18 ⟨none, (.store 7 (.tmp 6) (.tmp 17)), none⟩,
 .re 12 ⟨some 22, (.load1 (.tmp 21)), none⟩,
 .re 15 ⟨some 25, (.loadN 7 (.tmp 24)), none⟩,
 .op 19 ⟨none, (.store 7 (.tmp 7) (.tmp 25)), none⟩])
 (.seq (.seq (.region [⟨some 26, (.fieldAddr 2 (.tmp 6)), none⟩,
 ⟨some 27, (.load1 (.tmp 26)), none⟩,
 ⟨some 28, (.fieldAddr 2 (.tmp 7)), none⟩,
 ⟨some 29, (.load1 (.tmp 28)), none⟩,
 ⟨some 30, (.bin .neq .prim (.tmp 27) (.tmp 29)), none⟩])
 (.cond (.tmp 30)
 .ret
 .skip))
 (.seq (.dregion [[], [0], [0, 1], [1, 0, 2], [], [4], [], [6], [], [8], [8, 9, 6, 7, 4, 5], [5, 4, 7, 6, 9, 8, 10, 2, 0, 1, 3], [3, 1, 0, 2, 10, 8, 9, 6, 7, 4, 5, 11], [11, 5, 4, 7, 6, 9, 8, 10, 2, 0, 1, 3, 12], [11, 5, 4, 7, 6, 9, 8, 10, 2, 0, 1, 3, 12], [12, 3, 1, 0, 2, 10, 8, 9, 6, 7, 4, 5, 11, 13], [13, 15, 12, 3, 1, 0, 2, 10, 8, 9, 6, 7, 4, 5, 11, 14]] [.op 0 ⟨some 32, (.move (.tmp 0)), none⟩,
 .op 1 ⟨some 33, (.nilCheck (.tmp 32)), none⟩,
 .op 2 ⟨some 34, (.fieldAddr 6 (.tmp 33)), none⟩,
 .op 3 ⟨some 35, (.load1 (.tmp 34)), none⟩,
 .op 4 ⟨some 36, (.fieldAddr 0 (.tmp 6)), none⟩,
 .op 5 ⟨some 37, (.load1 (.tmp 36)), none⟩,
 .op 6 ⟨some 38, (.fieldAddr 1 (.tmp 7)), none⟩,
 .op 7 ⟨some 39, (.load1 (.tmp 38)), none⟩,
 .op 8 ⟨some 40, (.fieldAddr 2 (.tmp 6)), none⟩,
 .op 9 ⟨some 41, (.load1 (.tmp 40)), none⟩,
 .op 10 ⟨some 42, (.build [(.int .i64 0), (.int .i64 0), (.int .i64 0)] [(0, 1, (.tmp 37)), (1, 1, (.tmp 39)), (2, 1, (.tmp 41))]), none⟩,
 .op 11 ⟨some 43, (.lookup (.many [.int, .int, .int]) (.int .i64 0) (.tmp 35) (.tmp 42) true), none⟩,
 .op 12 ⟨some 31, (.move (.tmp 43)), none⟩,
 .op 13 ⟨some 44, (.extract (.tmp 31) 0), none⟩,
 .op 14 ⟨some 45, (.extract (.tmp 31) 1), none⟩,
 .op 15 ⟨some 8, (.move (.tmp 44)), none⟩,
 .op 16 ⟨some 9, (.move (.tmp 45)), none⟩])
 (.seq (.dregion [[], [0], [0, 1], [1, 0, 2], [2, 0, 1, 3], [3, 1, 0, 2, 4], [4, 2, 0, 1, 3, 5], [5, 3, 1, 0, 2, 4, 6], [1, 0, 2], [8, 6, 4, 2, 0, 1, 3, 5, 7], [7, 5, 3, 1, 0, 2, 4, 6, 8, 9], [9, 8, 6, 4, 2, 0, 1, 3, 5, 7, 10], [1, 0, 2], [2, 0, 1, 12], [1, 0, 2], [2, 0, 1, 14], [14, 15, 12, 1, 0, 2, 13], [13, 12, 15, 14, 16, 10, 7, 5, 3, 1, 0, 2, 4, 6, 8, 9, 11], [11, 9, 8, 6, 4, 3, 5, 7, 10, 16, 14, 15, 12, 13, 17, 1, 0, 2]] [.op 0 ⟨some 46, (.move (.tmp 9)), none⟩,
 .op 1 ⟨some 47, (.un .not (.tmp 46)), none⟩,
 .op 2 ⟨some 48, (.move (.tmp 47)), none⟩,
 .op 3 ⟨some 49, (.move (.tmp 0)), some (48, false)⟩,
 .op 4 ⟨some 50, (.nilCheck (.tmp 49)), some (48, false)⟩,
 .op 5 ⟨some 51, (.fieldAddr 0 (.tmp 50)), some (48, false)⟩,
 .op 6 ⟨some 52, (.fieldAddr 3 (.tmp 51)), some (48, false)⟩,
 .op 7 ⟨some 53, (.load1 (.tmp 52)), some (48, false)⟩,
 .op 8 ⟨some 54, (.move (.tmp 8)), some (48, false)⟩,
 .op 9 ⟨some 55, (.indexAddrS 7 (.tmp 53) (.tmp 54)), some (48, false)⟩,
 .op 10 ⟨some 56, (.fieldAddr 3 (.tmp 55)), some (48, false)⟩,
 .op 11 ⟨some 57, (.load1 (.tmp 56)), some (48, false)⟩,
 .op 12 ⟨some 58, (.fieldAddr 3 (.tmp 6)), some (48, false)⟩,
 .op 13 ⟨some 59, (.load1 (.tmp 58)), some (48, false)⟩,
 .op 14 ⟨some 60, (.fieldAddr 3 (.tmp 7)), some (48, false)⟩,
 .op 15 ⟨some 61, (.load1 (.tmp 60)), some (48, false)⟩,
 .op 16 ⟨some 62, (.bin .add .prim (.tmp 59) (.tmp 61)), some (48, false)⟩,
 .op 17 ⟨some 63, (.bin .gtr .prim (.tmp 57) (.tmp 62)), some (48, false)⟩,
 .op 18 ⟨some 64, (.pick (.tmp 48) (.con (.bool true)) (.tmp 63)), none⟩])
 (.cond (.tmp 64)
 (.region [⟨some 65, (.move (.tmp 0)), none⟩,
 ⟨some 66, (.fieldAddr 0 (.tmp 6)), none⟩,
 ⟨some 67, (.load1 (.tmp 66)), none⟩,
 ⟨some 68, (.fieldAddr 1 (.tmp 7)), none⟩,
 ⟨some 69, (.load1 (.tmp 68)), none⟩,
 ⟨some 70, (.fieldAddr 2 (.tmp 6)), none⟩,
 ⟨some 71, (.load1 (.tmp 70)), none⟩,
 ⟨some 72, (.fieldAddr 3 (.tmp 6)), none⟩,
 ⟨some 73, (.load1 (.tmp 72)), none⟩,
 ⟨some 74, (.fieldAddr 3 (.tmp 7)), none⟩,
 ⟨some 75, (.load1 (.tmp 74)), none⟩,
 ⟨some 76, (.bin .add .prim (.tmp 73) (.tmp 75)), none⟩,
 ⟨some 77, (.move (.tmp 1)), none⟩,
 ⟨some 78, (.move (.tmp 2)), none⟩,
 ⟨some 79, (.build [(.int .i64 0), (.int .i64 0), (.int .i64 0), (.int .i64 0), (.int .i64 0), (.int .i64 0), (.int .i64 0)] [(0, 1, (.tmp 67)), (1, 1, (.tmp 69)), (2, 1, (.tmp 71)), (3, 1, (.tmp 76)), (4, 1, (.con (.int .i64 (-1)))), (5, 1, (.tmp 77)), (6, 1, (.tmp 78))]), none⟩,
 ⟨some 80, (.call 121 [(.tmp 65), (.tmp 79)]), none⟩])
 .skip)))))⟩
theorem F124_ok : cfn tab F124.body Try.f124 = some F124 := by kernel_rfl

/- (milestone/net.checker).edge -/
def F125 : AFn := ⟨38, [.tmp 4],
 (.seq (.region [⟨some 2, (.box 1 (.tmp 0)), none⟩,
 ⟨some 3, (.box 4 (.tmp 1)), none⟩,
 ⟨some 4, (.move (.con (.bool false))), none⟩])
 (.seq (.region [⟨some 6, (.loadN 1 (.tmp 2)), none⟩,
 ⟨some 7, (.mkFunc (.func 143) [(.tmp 6)] []), none⟩,
 ⟨some 5, (.move (.tmp 7)), none⟩])
 (.seq (.region [⟨some 8, (.move (.tmp 5)), none⟩,
 ⟨some 9, (.fieldAddr 0 (.tmp 3)), none⟩,
 ⟨some 10, (.load1 (.tmp 9)), none⟩,
 ⟨some 11, (.callv (.tmp 8) [(.tmp 10)]), none⟩,
 ⟨some 12, (.move (.tmp 11)), none⟩,
 ⟨some 13, (.move (.tmp 5)), some (12, true)⟩,
 ⟨some 14, (.fieldAddr 1 (.tmp 3)), some (12, true)⟩,
 ⟨some 15, (.load1 (.tmp 14)), some (12, true)⟩,
 ⟨some 16, (.callv (.tmp 13) [(.tmp 15)]), some (12, true)⟩,
 ⟨some 17, (.pick (.tmp 12) (.tmp 16) (.con (.bool false))), none⟩,
 ⟨some 18, (.move (.tmp 17)), none⟩,
 ⟨some 19, (.fieldAddr 2 (.tmp 3)), some (18, true)⟩,
 ⟨some 20, (.load1 (.tmp 19)), some (18, true)⟩,
 ⟨some 21, (.bin .geq .prim (.tmp 20) (.con (.int .i64 0))), some (18, true)⟩,
 ⟨some 22, (.pick (.tmp 18) (.tmp 21) (.con (.bool false))), none⟩,
 ⟨some 23, (.move (.tmp 22)), none⟩,
 ⟨some 24, (.fieldAddr 2 (.tmp 3)), some (23, true)⟩,
 ⟨some 25, (.load1 (.tmp 24)), some (23, true)⟩,
 ⟨some 26, (.bin .lss .prim (.tmp 25) (.con (.int .i64 5))), some (23, true)⟩,
 ⟨some 27, (.pick (.tmp 23) (.tmp 26) (.con (.bool false))), none⟩,
 ⟨some 28, (.move (.tmp 27)), none⟩,
 ⟨some 29, (.fieldAddr 3 (.tmp 3)), some (28, true)⟩,
 ⟨some 30, (.load1 (.tmp 29)), some (28, true)⟩,
 ⟨some 31, (.bin .geq .prim (.tmp 30) (.con (.int .i64 0))), some (28, true)⟩,
 ⟨some 32, (.pick (.tmp 28) (.tmp 31) (.con (.bool false))), none⟩,
 ⟨some 33, (.move (.tmp 32)), none⟩,
 ⟨some 34, (.fieldAddr 3 (.tmp 3)), some (33, true)⟩,
 ⟨some 35, (.load1 (.tmp 34)), some (33, true)⟩,
 ⟨some 36, (.bin .leq .prim (.tmp 35) (.con (.int .i64 2147483647))), some (33, true)⟩,
 ⟨some 37, (.pick (.tmp 33) (.tmp 36) (.con (.bool false))), none⟩,
 ⟨some 4, (.move (.tmp 37)), none⟩])
 .ret)))⟩
theorem F125_ok : cfn tab F125.body Try.f125 = some F125 := by kernel_rfl

/- (milestone/hier.checker).edge -/
def F126 : AFn := ⟨46, [.tmp 4],
 (.seq (.region [⟨some 2, (.box 6 (.tmp 0)), none⟩,
 ⟨some 3, (.box 7 (.tmp 1)), none⟩,
 ⟨some 4, (.move (.con (.bool false))), none⟩])
 (.seq (.seq (.region [⟨some 5, (.fieldAddr 4 (.tmp 3)), none⟩,
 ⟨some 6, (.load1 (.tmp 5)), none⟩,
 ⟨some 7, (.bin .lss .prim (.tmp 6) (.con (.int .i64 0))), none⟩,
 ⟨some 8, (.move (.tmp 7)), none⟩,
 ⟨some 9, (.fieldAddr 4 (.tmp 3)), some (8, false)⟩,
 ⟨some 10, (.load1 (.tmp 9)), some (8, false)⟩,
 ⟨some 11, (.fieldAddr 0 (.tmp 2)), some (8, false)⟩,
 ⟨some 12, (.fieldAddr 0 (.tmp 11)), some (8, false)⟩,
 ⟨some 13, (.fieldAddr 1 (.tmp 12)), some (8, false)⟩,
 ⟨some 14, (.load1 (.tmp 13)), some (8, false)⟩,
 ⟨some 15, (.lenS (.tmp 14)), some (8, false)⟩,
 ⟨some 16, (.bin .geq .prim (.tmp 10) (.tmp 15)), some (8, false)⟩,
 ⟨some 17, (.pick (.tmp 8) (.con (.bool true)) (.tmp 16)), none⟩,
 ⟨some 18, (.move (.tmp 17)), none⟩,
 ⟨some 19, (.fieldAddr 5 (.tmp 3)), some (18, false)⟩,
 ⟨some 20, (.load1 (.tmp 19)), some (18, false)⟩,
 ⟨some 21, (.bin .neq .prim (.tmp 20) (.con (.int .i64 0))), some (18, false)⟩,
 ⟨some 22, (.pick (.tmp 18) (.con (.bool true)) (.tmp 21)), none⟩,
 ⟨some 23, (.move (.tmp 22)), none⟩,
 ⟨some 24, (.fieldAddr 6 (.tmp 3)), some (23, false)⟩,
 ⟨some 25, (.load1 (.tmp 24)), some (23, false)⟩,
 ⟨some 26, (.bin .neq .prim (.tmp 25) (.con (.int .i64 0))), some (23, false)⟩,
 ⟨some 27, (.pick (.tmp 23) (.con (.bool true)) (.tmp 26)), none⟩])
 (.cond (.tmp 27)
 (.seq (.region [⟨some 4, (.move (.con (.bool false))), none⟩])
 .ret)
 .skip))
 (.seq (.dregion [[], [0], [0, 1], [1, 0, 2], [], [4], [4, 5, 2, 0, 1, 3], [3, 1, 0, 2, 5, 4, 6], [], [8], [], [10], [], [12], [], [14], [14, 15, 12, 13, 10, 11, 8, 9], [9, 8, 11, 10, 13, 12, 15, 14, 16, 6, 4, 5, 2, 0, 1, 3, 7], [7, 3, 1, 0, 2, 5, 4, 6, 16, 14, 15, 12, 13, 10, 11, 8, 9, 17]] [.op 0 ⟨some 28, (.fieldAddr 0 (.tmp 2)), none⟩,
 .op 1 ⟨some 29, (.fieldAddr 0 (.tmp 28)), none⟩,
 .op 2 ⟨some 30, (.fieldAddr 1 (.tmp 29)), none⟩,
 .op 3 ⟨some 31, (.load1 (.tmp 30)), none⟩,
 .op 4 ⟨some 32, (.fieldAddr 4 (.tmp 3)), none⟩,
 .op 5 ⟨some 33, (.load1 (.tmp 32)), none⟩,
 .op 6 ⟨some 34, (.indexAddrS 4 (.tmp 31) (.tmp 33)), none⟩,
 .op 7 ⟨some 35, (.loadN 4 (.tmp 34)), none⟩,
 .op 8 ⟨some 36, (.fieldAddr 0 (.tmp 3)), none⟩,
 .op 9 ⟨some 37, (.load1 (.tmp 36)), none⟩,
 .op 10 ⟨some 38, (.fieldAddr 1 (.tmp 3)), none⟩,
 .op 11 ⟨some 39, (.load1 (.tmp 38)), none⟩,
 .op 12 ⟨some 40, (.fieldAddr 2 (.tmp 3)), none⟩,
 .op 13 ⟨some 41, (.load1 (.tmp 40)), none⟩,
 .op 14 ⟨some 42, (.fieldAddr 3 (.tmp 3)), none⟩,
 .op 15 ⟨some 43, (.load1 (.tmp 42)), none⟩,
 .op 16 ⟨some 44, (.build [(.int .i64 0), (.int .i64 0), (.int .i64 0), (.int .i64 0)] [(0, 1, (.tmp 37)), (1, 1, (.tmp 39)), (2, 1, (.tmp 41)), (3, 1, (.tmp 43))]), none⟩,
 .op 17 ⟨some 45, (.bin .eql (.flat [.int, .int, .int, .int]) (.tmp 35) (.tmp 44)), none⟩,
 .op 18 ⟨some 4, (.move (.tmp 45)), none⟩])
 .ret)))⟩
theorem F126_ok : cfn tab F126.body Try.f126 = some F126 := by kernel_rfl

/- (milestone/hier.checker).two -/
def F127 : AFn := ⟨96, [.tmp 4],
 (.seq (.region [⟨some 2, (.box 6 (.tmp 0)), none⟩,
 ⟨some 4, (.move (.con (.bool false))), none⟩])
 (.seq (.region [⟨some 8, (.fieldAddr 0 (.tmp 2)), none⟩,
 ⟨some 9, (.fieldAddr 3 (.tmp 8)), none⟩,
 ⟨some 10, (.load1 (.tmp 9)), none⟩,
 ⟨some 11, (.move (.tmp 1)), none⟩,
 ⟨some 12, (.indexAddrS 7 (.tmp 10) (.tmp 11)), none⟩,
 ⟨some 13, (.loadN 7 (.tmp 12)), none⟩,
 ⟨some 5, (.alloc [(.int .i64 0), (.int .i64 0), (.int .i64 0), (.int .i64 0), (.int .i64 0), (.int .i64 0), (.int .i64 0)]), none⟩,
 ⟨none, (.store 7 (.tmp 5) (.tmp 13)), none⟩])
 (.seq (.seq (.region [⟨some 14, (.fieldAddr 4 (.tmp 5)), none⟩,
 ⟨some 15, (.load1 (.tmp 14)), none⟩,
 ⟨some 16, (.bin .neq .prim (.tmp 15) (.con (.int .i64 (-1)))), none⟩,
 ⟨some 17, (.move (.tmp 16)), none⟩,
 ⟨some 18, (.fieldAddr 5 (.tmp 5)), some (17, false)⟩,
 ⟨some 19, (.load1 (.tmp 18)), some (17, false)⟩,
 ⟨some 20, (.bin .lss .prim (.tmp 19) (.con (.int .i64 0))), some (17, false)⟩,
 ⟨some 21, (.pick (.tmp 17) (.con (.bool true)) (.tmp 20)), none⟩,
 ⟨some 22, (.move (.tmp 21)), none⟩,
 ⟨some 23, (.fieldAddr 5 (.tmp 5)), some (22, false)⟩,
 ⟨some 24, (.load1 (.tmp 23)), some (22, false)⟩,
 ⟨some 25, (.move (.tmp 1)), some (22, false)⟩,
 ⟨some 26, (.bin .geq .prim (.tmp 24) (.tmp 25)), some (22, false)⟩,
 ⟨some 27, (.pick (.tmp 22) (.con (.bool true)) (.tmp 26)), none⟩,
 ⟨some 28, (.move (.tmp 27)), none⟩,
 ⟨some 29, (.fieldAddr 6 (.tmp 5)), some (28, false)⟩,
 ⟨some 30, (.load1 (.tmp 29)), some (28, false)⟩,
 ⟨some 31, (.bin .lss .prim (.tmp 30) (.con (.int .i64 0))), some (28, false)⟩,
 ⟨some 32, (.pick (.tmp 28) (.con (.bool true)) (.tmp 31)), none⟩,
 ⟨some 33, (.move (.tmp 32)), none⟩,
 ⟨some 34, (.fieldAddr 6 (.tmp 5)), some (33, false)⟩,
 ⟨some 35, (.load1 (.tmp 34)), some (33, false)⟩,
 ⟨some 36, (.move (.tmp 1)), some (33, false)⟩,
 ⟨some 37, (.bin .geq .prim (.tmp 35) (.tmp 36)), some (33, false)⟩,
 ⟨some 38, (.pick (.tmp 33) (.con (.bool true)) (.tmp 37)), none⟩])
 (.cond (.tmp 38)
 (.seq (.region [⟨some 4, (.move (.con (.bool false))), none⟩])
 .ret)
 .skip))
 (.seq (.dregion [[], [0], [0, 1], [], [3], [3, 4, 1, 0, 2], [2, 0, 1, 4, 3, 5], [], [7], [7, 8], [], [10], [10, 11, 8, 7, 9], [9, 7, 8, 11, 10, 12], [], [], [15, 5, 3, 4, 1, 0, 2, 6, 14], [14, 6, 2, 0, 1, 4, 3, 5, 16, 12, 10, 11, 8, 7, 9, 13, 15]] [.op 0 ⟨some 39, (.fieldAddr 0 (.tmp 2)), none⟩,
 .op 1 ⟨some 40, (.fieldAddr 3 (.tmp 39)), none⟩,
 .op 2 ⟨some 41, (.load1 (.tmp 40)), none⟩,
 .op 3 ⟨some 42, (.fieldAddr 5 (.tmp 5)), none⟩,
 .op 4 ⟨some 43, (.load1 (.tmp 42)), none⟩,
 .op 5 ⟨some 44, (.indexAddrS 7 (.tmp 41) (.tmp 43)), none⟩,
 .op 6 ⟨some 45, (.loadN 7 (.tmp 44)), none⟩,
 .op 7 ⟨some 46, (.fieldAddr 0 (.tmp 2)), none⟩,
 .op 8 ⟨some 47, (.fieldAddr 3 (.tmp 46)), none⟩,
 .op 9 ⟨some 48, (.load1 (.tmp 47)), none⟩,
 .op 10 ⟨some 49, (.fieldAddr 6 (.tmp 5)), none⟩,
 .op 11 ⟨some 50, (.load1 (.tmp 49)), none⟩,
 .op 12 ⟨some 51, (.indexAddrS 7 (.tmp 48) (.tmp 50)), none⟩,
 .op 13 ⟨some 52, (.loadN 7 (.tmp 51)), none⟩,
 .op 14 ⟨some 6, (.alloc [(.int .i64 0), (.int .i64 0), (.int .i64 0), (.int .i64 0), (.int .i64 0), (.int .i64 0), (.int .i64 0)]), none⟩,
 .op 15 ⟨some 7, (.alloc [(.int .i64 0), (.int .i64 0), (.int .i64 0), (.int .i64 0), (.int .i64 0), (.int .i64 0), (.int .i64 0)]), none⟩,
 .op 16 ⟨none, (.store 7 (.tmp 6) (.tmp 45)), none⟩,
 .re 9 ⟨some 48, (.load1 (.tmp 47)), none⟩,
 .re 11 ⟨some 50, (.load1 (.tmp 49)), none⟩,
 .re 13 ⟨some 52, (.loadN 7 (.tmp 51)), none⟩,
 .op 17 ⟨none, (.store 7 (.tmp 7) (.tmp 52)), none⟩])
 (.seq (.region [⟨some 53, (.fieldAddr 2 (.tmp 6)), none⟩,
 ⟨some 54, (.load1 (.tmp 53)), none⟩,
 ⟨some 55, (.fieldAddr 2 (.tmp 5)), none⟩,
 ⟨some 56, (.load1 (.tmp 55)), none⟩,
 ⟨some 57, (.bin .eql .prim (.tmp 54) (.tmp 56)), none⟩,
 ⟨some 58, (.move (.tmp 57)), none⟩,
 ⟨some 59, (.fieldAddr 2 (.tmp 7)), some (58, true)⟩,
 ⟨some 60, (.load1 (.tmp 59)), some (58, true)⟩,
 ⟨some 61, (.fieldAddr 2 (.tmp 5)), some (58, true)⟩,
 ⟨some 62, (.load1 (.tmp 61)), some (58, true)⟩,
 ⟨some 63, (.bin .eql .prim (.tmp 60) (.tmp 62)), some (58, true)⟩,
 ⟨some 64, (.pick (.tmp 58) (.tmp 63) (.con (.bool false))), none⟩,
 ⟨some 65, (.move (.tmp 64)), none⟩,
 ⟨some 66, (.fieldAddr 0 (.tmp 6)), some (65, true)⟩,
 ⟨some 67, (.load1 (.tmp 66)), some (65, true)⟩,
 ⟨some 68, (.fieldAddr 0 (.tmp 5)), some (65, true)⟩,
 ⟨some 69, (.load1 (.tmp 68)), some (65, true)⟩,
 ⟨some 70, (.bin .eql .prim (.tmp 67) (.tmp 69)), some (65, true)⟩,
 ⟨some 71, (.pick (.tmp 65) (.tmp 70) (.con (.bool false))), none⟩,
 ⟨some 72, (.move (.tmp 71)), none⟩,
 ⟨some 73, (.fieldAddr 1 (.tmp 6)), some (72, true)⟩,
 ⟨some 74, (.load1 (.tmp 73)), some (72, true)⟩,
 ⟨some 75, (.fieldAddr 0 (.tmp 7)), some (72, true)⟩,
 ⟨some 76, (.load1 (.tmp 75)), some (72, true)⟩,
 ⟨some 77, (.bin .eql .prim (.tmp 74) (.tmp 76)), some (72, true)⟩,
 ⟨some 78, (.pick (.tmp 72) (.tmp 77) (.con (.bool false))), none⟩,
 ⟨some 79, (.move (.tmp 78)), none⟩,
 ⟨some 80, (.fieldAddr 1 (.tmp 7)), some (79, true)⟩,
 ⟨some 81, (.load1 (.tmp 80)), some (79, true)⟩,
 ⟨some 82, (.fieldAddr 1 (.tmp 5)), some (79, true)⟩,
 ⟨some 83, (.load1 (.tmp 82)), some (79, true)⟩,
 ⟨some 84, (.bin .eql .prim (.tmp 81) (.tmp 83)), some (79, true)⟩,
 ⟨some 85, (.pick (.tmp 79) (.tmp 84) (.con (.bool false))), none⟩,
 ⟨some 86, (.move (.tmp 85)), none⟩,
 ⟨some 87, (.fieldAddr 3 (.tmp 5)), some (86, true)⟩,
 ⟨some 88, (.load1 (.tmp 87)), some (86, true)⟩,
 ⟨some 89, (.fieldAddr 3 (.tmp 6)), some (86, true)⟩,
 ⟨some 90, (.load1 (.tmp 89)), some (86, true)⟩,
 ⟨some 91, (.fieldAddr 3 (.tmp 7)), some (86, true)⟩,
 ⟨some 92, (.load1 (.tmp 91)), some (86, true)⟩,
 ⟨some 93, (.bin .add .prim (.tmp 90) (.tmp 92)), some (86, true)⟩,
 ⟨some 94, (.bin .eql .prim (.tmp 88) (.tmp 93)), some (86, true)⟩,
 ⟨some 95, (.pick (.tmp 86) (.tmp 94) (.con (.bool false))), none⟩,
 ⟨some 4, (.move (.tmp 95)), none⟩])
 .ret)))))⟩
theorem F127_ok : cfn tab F127.body Try.f127 = some F127 := by kernel_rfl

/- (milestone/hier.checker).once -/
def F128 : AFn := ⟨33, [.tmp 4],
 (.seq (.region [⟨some 2, (.box 6 (.tmp 0)), none⟩,
 ⟨some 4, (.move (.con (.bool false))), none⟩])
 (.seq (.region [⟨some 8, .mkMap, none⟩,
 ⟨some 5, (.move (.tmp 8)), none⟩])
 (.seq (.seq (.region [⟨some 9, (.move (.tmp 1)), none⟩,
 ⟨some 10, (.lenS (.tmp 9)), none⟩,
 ⟨some 11, (.move (.con (.int .i64 0))), none⟩])
 (.join [false, false, false, false, true] (.block 0 (.loop [false, false, true, false, false, true, false, false, false, true, true, true] [false, false, false, false, true]
 (.seq (.region [⟨some 12, (.bin .lss .prim (.tmp 11) (.tmp 10)), none⟩])
 (.seq (.cond (.tmp 12)
 .skip
 (.exit 0))
 (.seq (.block 1 (.seq (.region [⟨some 13, (.indexAddrS 1 (.tmp 9) (.tmp 11)), none⟩,
 ⟨some 14, (.load1 (.tmp 13)), none⟩,
 ⟨some 7, (.move (.tmp 14)), none⟩])
 (.seq (.seq (.region [⟨some 15, (.move (.tmp 7)), none⟩,
 ⟨some 16, (.bin .lss .prim (.tmp 15) (.con (.int .i64 0))), none⟩,
 ⟨some 17, (.move (.tmp 16)), none⟩,
 ⟨some 18, (.move (.tmp 7)), some (17, false)⟩,
 ⟨some 19, (.fieldAddr 0 (.tmp 2)), some (17, false)⟩,
 ⟨some 20, (.fieldAddr 3 (.tmp 19)), some (17, false)⟩,
 ⟨some 21, (.load1 (.tmp 20)), some (17, false)⟩,
 ⟨some 22, (.lenS (.tmp 21)), some (17, false)⟩,
 ⟨some 23, (.bin .geq .prim (.tmp 18) (.tmp 22)), some (17, false)⟩,
 ⟨some 24, (.pick (.tmp 17) (.con (.bool true)) (.tmp 23)), none⟩,
 ⟨some 25, (.move (.tmp 24)), none⟩,
 ⟨some 26, (.move (.tmp 5)), some (25, false)⟩,
 ⟨some 27, (.move (.tmp 7)), some (25, false)⟩,
 ⟨some 28, (.lookup (.one .int) (.bool false) (.tmp 26) (.tmp 27) false), some (25, false)⟩,
 ⟨some 29, (.pick (.tmp 25) (.con (.bool true)) (.tmp 28)), none⟩])
 (.cond (.tmp 29)
 (.seq (.region [⟨some 4, (.move (.con (.bool false))), none⟩])
 .ret)
 .skip))
 (.region [⟨some 30, (.move (.tmp 5)), none⟩,
 ⟨some 31, (.move (.tmp 7)), none⟩,
 ⟨none, (.mapUpdate (.one .int) (.tmp 30) (.tmp 31) (.con (.bool true))), none⟩]))))
 (.region [⟨some 32, (.bin .add .prim (.tmp 11) (.con (.int .i64 1))), none⟩,
 ⟨some 11, (.move (.tmp 32)), none⟩]))))))))
 (.seq (.region [⟨some 4, (.move (.con (.bool true))), none⟩])
 .ret))))⟩
theorem F128_ok : cfn tab F128.body Try.f128 = some F128 := by kernel_rfl

/- (milestone/hier.checker).above -/
def F129 : AFn := ⟨34, [.tmp 6],
 (.seq (.region [⟨some 3, (.box 6 (.tmp 0)), none⟩,
 ⟨some 6, (.move (.con (.bool false))), none⟩])
 (.seq (.region [⟨some 8, (.fieldAddr 0 (.tmp 3)), none⟩,
 ⟨some 9, (.fieldAddr 2 (.tmp 8)), none⟩,
 ⟨some 10, (.load1 (.tmp 9)), none⟩,
 ⟨some 7, (.move (.tmp 10)), none⟩])
 (.seq (.dregion [[], [], [1, 0], [0, 1, 2], [2, 1, 0, 3], [3, 0, 1, 2, 4], [4, 2, 1, 0, 3, 5], [4, 2, 1, 0, 3, 5], [7, 5, 3, 0, 1, 2, 4, 6], [6, 4, 2, 1, 0, 3, 5, 7, 8], [8, 7, 5, 3, 0, 1, 2, 4, 6, 9], [9, 6, 4, 2, 1, 0, 3, 5, 7, 8, 10], [10, 8, 7, 5, 3, 0, 1, 2, 4, 6, 9, 11], [10, 8, 7, 5, 3, 0, 1, 2, 4, 6, 9, 11], [13, 11, 9, 6, 4, 2, 1, 0, 3, 5, 7, 8, 10, 12], [12, 10, 8, 7, 5, 3, 0, 1, 2, 4, 6, 9, 11, 13, 14], [10, 8, 7, 5, 3, 0, 1, 2, 4, 6, 9, 11], [10, 8, 7, 5, 3, 0, 1, 2, 4, 6, 9, 11], [17, 11, 9, 6, 4, 2, 1, 0, 3, 5, 7, 8, 10, 16], [16, 10, 8, 7, 5, 3, 0, 1, 2, 4, 6, 9, 11, 17, 18], [18, 17, 16, 19, 14, 13, 11, 9, 6, 4, 2, 1, 0, 3, 5, 7, 8, 10, 12, 15], [15, 12, 13, 14, 19, 16, 17, 18, 20, 10, 8, 7, 5, 3, 0, 1, 2, 4, 6, 9, 11], [11, 9, 6, 7, 8, 10, 20, 18, 17, 16, 19, 14, 13, 12, 15, 21, 4, 2, 1, 0, 3, 5], [5, 3, 0, 1, 2, 4, 21, 15, 12, 13, 14, 19, 16, 17, 18, 20, 10, 8, 7, 6, 9, 11, 22]] [.op 0 ⟨some 11, (.move (.tmp 7)), none⟩,
 .op 1 ⟨some 12, (.move (.tmp 1)), none⟩,
 .op 2 ⟨some 13, (.indexAddrS 1 (.tmp 11) (.tmp 12)), none⟩,
 .op 3 ⟨some 14, (.load1 (.tmp 13)), none⟩,
 .op 4 ⟨some 15, (.bin .lss .prim (.tmp 14) (.con (.int .i64 0))), none⟩,
 .op 5 ⟨some 16, (.move (.tmp 15)), none⟩,
 .op 6 ⟨some 17, (.move (.tmp 7)), some (16, false)⟩,
 .op 7 ⟨some 18, (.move (.tmp 2)), some (16, false)⟩,
 .op 8 ⟨some 19, (.indexAddrS 1 (.tmp 17) (.tmp 18)), some (16, false)⟩,
 .op 9 ⟨some 20, (.load1 (.tmp 19)), some (16, false)⟩,
 .op 10 ⟨some 21, (.bin .geq .prim (.tmp 20) (.con (.int .i64 0))), some (16, false)⟩,
 .op 11 ⟨some 22, (.move (.tmp 21)), some (16, false)⟩,
 .op 12 ⟨some 23, (.move (.tmp 7)), some (22, true)⟩,
 .op 13 ⟨some 24, (.move (.tmp 1)), some (22, true)⟩,
 .op 14 ⟨some 25, (.indexAddrS 1 (.tmp 23) (.tmp 24)), some (22, true)⟩,
 .op 15 ⟨some 26, (.load1 (.tmp 25)), some (22, true)⟩,
 .op 16 ⟨some 27, (.move (.tmp 7)), some (22, true)⟩,
 .op 17 ⟨some 28, (.move (.tmp 2)), some (22, true)⟩,
 .op 18 ⟨some 29, (.indexAddrS 1 (.tmp 27) (.tmp 28)), some (22, true)⟩,
 .op 19 ⟨some 30, (.load1 (.tmp 29)), some (22, true)⟩,
 .op 20 ⟨some 31, (.bin .gtr .prim (.tmp 26) (.tmp 30)), some (22, true)⟩,
 .op 21 ⟨some 32, (.pick (.tmp 22) (.tmp 31) (.con (.bool false))), some (16, false)⟩,
 .op 22 ⟨some 33, (.pick (.tmp 16) (.con (.bool true)) (.tmp 32)), none⟩,
 .op 23 ⟨some 6, (.move (.tmp 33)), none⟩])
 .ret)))⟩
theorem F129_ok : cfn tab F129.body Try.f129 = some F129 := by kernel_rfl

/- slices.insertionSortCmpFunc[milestone/order.ranked] -/
def F131 : AFn := ⟨53, [],
 (.seq (.region [⟨some 10, (.move (.tmp 1)), none⟩,
 ⟨some 11, (.bin .add .prim (.tmp 10) (.con (.int .i64 1))), none⟩,
 ⟨some 8, (.move (.tmp 11)), none⟩])
 (.block 0 (.loop [true, true, true, true, false, false, false, false, true] []
 (.seq (.seq (.region [⟨some 12, (.move (.tmp 8)), none⟩,
 ⟨some 13, (.move (.tmp 2)), none⟩,
 ⟨some 14, (.bin .lss .prim (.tmp 12) (.tmp 13)), none⟩])
 (.cond (.tmp 14)
 .skip
 (.exit 0)))
 (.seq (.block 1 (.seq (.region [⟨some 17, (.move (.tmp 8)), none⟩,
 ⟨some 9, (.move (.tmp 17)), none⟩])
 (.block 2 (.loop [true, true, true, true, false, false, false, false, true, true] [true, true, true, true, false, false, false, false, true]
 (.seq (.seq (.dregion [[], [], [1, 0], [0, 1, 2], [2, 1, 0, 3], [2, 1, 0, 3], [2, 1, 0, 3], [6, 3, 0, 1, 2, 5], [5, 2, 1, 0, 3, 6, 7], [2, 1, 0, 3], [2, 1, 0, 3], [3, 0, 1, 2, 10], [10, 11, 3, 0, 1, 2, 9], [9, 2, 1, 0, 3, 11, 10, 12], [12, 10, 11, 9, 13, 7, 6, 5, 8, 3, 0, 1, 2, 4], [4, 2, 1, 0, 3, 8, 5, 6, 7, 13, 9, 11, 10, 12, 14], [14, 12, 10, 11, 9, 13, 7, 6, 5, 8, 4, 15, 2, 1, 0, 3]] [.op 0 ⟨some 18, (.move (.tmp 9)), none⟩,
 .op 1 ⟨some 19, (.move (.tmp 1)), none⟩,
 .op 2 ⟨some 20, (.bin .gtr .prim (.tmp 18) (.tmp 19)), none⟩,
 .op 3 ⟨some 21, (.move (.tmp 20)), none⟩,
 .op 4 ⟨some 22, (.move (.tmp 3)), some (21, true)⟩,
 .op 5 ⟨some 23, (.move (.tmp 0)), some (21, true)⟩,
 .op 6 ⟨some 24, (.move (.tmp 9)), some (21, true)⟩,
 .op 7 ⟨some 25, (.indexAddrS 2 (.tmp 23) (.tmp 24)), some (21, true)⟩,
 .op 8 ⟨some 26, (.loadN 2 (.tmp 25)), some (21, true)⟩,
 .op 9 ⟨some 27, (.move (.tmp 0)), some (21, true)⟩,
 .op 10 ⟨some 28, (.move (.tmp 9)), some (21, true)⟩,
 .op 11 ⟨some 29, (.bin .sub .prim (.tmp 28) (.con (.int .i64 1))), some (21, true)⟩,
 .op 12 ⟨some 30, (.indexAddrS 2 (.tmp 27) (.tmp 29)), some (21, true)⟩,
 .op 13 ⟨some 31, (.loadN 2 (.tmp 30)), some (21, true)⟩,
 .op 14 ⟨some 32, (.callv (.tmp 22) [(.tmp 26), (.tmp 31)]), some (21, true)⟩,
 .op 15 ⟨some 33, (.bin .lss .prim (.tmp 32) (.con (.int .i64 0))), some (21, true)⟩,
 .op 16 ⟨some 34, (.pick (.tmp 21) (.tmp 33) (.con (.bool false))), none⟩])
 (.cond (.tmp 34)
 .skip
 (.exit 2)))
 (.seq (.block 3 (.dregion [[], [], [], [], [3], [], [], [6], [6, 7, 5], [5, 7, 6, 8], [], [], [11, 10], [10, 11, 12], [12, 11, 10, 13, 9, 8, 7, 6, 5, 1, 0], [0, 1, 5, 6, 7, 8, 9, 13, 10, 11, 12, 14], [15, 14, 13, 12, 11, 10, 9, 8, 7, 6, 5, 1, 0, 3, 4, 2], [2, 4, 3, 0, 1, 5, 6, 7, 8, 9, 10, 11, 12, 13, 14, 15, 16]] [.op 0 ⟨some 37, (.move (.tmp 0)), none⟩,
 .op 1 ⟨some 38, (.move (.tmp 9)), none⟩,
 .op 2 ⟨some 39, (.move (.tmp 0)), none⟩,
 .op 3 ⟨some 40, (.move (.tmp 9)), none⟩,
 .op 4 ⟨some 41, (.bin .sub .prim (.tmp 40) (.con (.int .i64 1))), none⟩,
 .op 5 ⟨some 42, (.move (.tmp 0)), none⟩,
 .op 6 ⟨some 43, (.move (.tmp 9)), none⟩,
 .op 7 ⟨some 44, (.bin .sub .prim (.tmp 43) (.con (.int .i64 1))), none⟩,
 .op 8 ⟨some 45, (.indexAddrS 2 (.tmp 42) (.tmp 44)), none⟩,
 .op 9 ⟨some 46, (.loadN 2 (.tmp 45)), none⟩,
 .op 10 ⟨some 47, (.move (.tmp 0)), none⟩,
 .op 11 ⟨some 48, (.move (.tmp 9)), none⟩,
 .op 12 ⟨some 49, (.indexAddrS 2 (.tmp 47) (.tmp 48)), none⟩,
 .op 13 ⟨some 50, (.loadN 2 (.tmp 49)), none⟩,
 .op 14 ⟨some 51, (.indexAddrS 2 (.tmp 37) (.tmp 38)), none⟩,
 .op 15 ⟨none, (.store 2 (.tmp 51) (.tmp 46)), none⟩,
 .op 16 ⟨some 52, (.indexAddrS 2 (.tmp 39) (.tmp 41)), none⟩,
 .op 17 ⟨none, (.store 2 (.tmp 52) (.tmp 50)), none⟩]))
 (.region [⟨some 35, (.move (.tmp 9)), none⟩,
 ⟨some 36, (.bin .sub .prim (.tmp 35) (.con (.int .i64 1))), none⟩,
 ⟨some 9, (.move (.tmp 36)), none⟩])))))))
 (.region [⟨some 15, (.move (.tmp 8)), none⟩,
 ⟨some 16, (.bin .add .prim (.tmp 15) (.con (.int .i64 1))), none⟩,
 ⟨some 8, (.move (.tmp 16)), none⟩]))))))⟩
theorem F131_ok : cfn tab F131.body Try.f131 = some F131 := by kernel_rfl

/- math/bits.Len32 -/
def F139 : AFn := ⟨19, [.tmp 2],
 (.seq (.region [⟨some 2, (.move (.con (.int .i64 0))), none⟩])
 (.seq (.seq (.region [⟨some 3, (.move (.tmp 0)), none⟩,
 ⟨some 4, (.bin .geq .prim (.tmp 3) (.con (.int .u32 65536))), none⟩])
 (.join [true, false, true] (.cond (.tmp 4)
 (.seq (.region [⟨some 5, (.move (.tmp 0)), none⟩,
 ⟨some 6, (.bin .shr .prim (.tmp 5) (.con (.int .u64 16))), none⟩,
 ⟨some 0, (.move (.tmp 6)), none⟩])
 (.region [⟨some 2, (.move (.con (.int .i64 16))), none⟩]))
 .skip)))
 (.seq (.seq (.region [⟨some 7, (.move (.tmp 0)), none⟩,
 ⟨some 8, (.bin .geq .prim (.tmp 7) (.con (.int .u32 256))), none⟩])
 (.join [true, false, true] (.cond (.tmp 8)
 (.seq (.region [⟨some 9, (.move (.tmp 0)), none⟩,
 ⟨some 10, (.bin .shr .prim (.tmp 9) (.con (.int .u64 8))), none⟩,
 ⟨some 0, (.move (.tmp 10)), none⟩])
 (.region [⟨some 11, (.move (.tmp 2)), none⟩,
 ⟨some 12, (.bin .add .prim (.tmp 11) (.con (.int .i64 8))), none⟩,
 ⟨some 2, (.move (.tmp 12)), none⟩]))
 .skip)))
 (.seq (.region [⟨some 13, (.move (.tmp 2)), none⟩,
 ⟨some 14, (.move (.tmp 0)), none⟩,
 ⟨some 15, (.toInt .u8 (.tmp 14)), none⟩,
 ⟨some 16, (.indexStr (.con (.str ⟨#[0, 1, 2, 2, 3, 3, 3, 3, 4, 4, 4, 4, 4, 4, 4, 4, 5, 5, 5, 5, 5, 5, 5, 5, 5, 5, 5, 5, 5, 5, 5, 5, 6, 6, 6, 6, 6, 6, 6, 6, 6, 6, 6, 6, 6, 6, 6, 6, 6, 6, 6, 6, 6, 6, 6, 6, 6, 6, 6, 6, 6, 6, 6, 6, 7, 7, 7, 7, 7, 7, 7, 7, 7, 7, 7, 7, 7, 7, 7, 7, 7, 7, 7, 7, 7, 7, 7, 7, 7, 7, 7, 7, 7, 7, 7, 7, 7, 7, 7, 7, 7, 7, 7, 7, 7, 7, 7, 7, 7, 7, 7, 7, 7, 7, 7, 7, 7, 7, 7, 7, 7, 7, 7, 7, 7, 7, 7, 7, 8, 8, 8, 8, 8, 8, 8, 8, 8, 8, 8, 8, 8, 8, 8, 8, 8, 8, 8, 8, 8, 8, 8, 8, 8, 8, 8, 8, 8, 8, 8, 8, 8, 8, 8, 8, 8, 8, 8, 8, 8, 8, 8, 8, 8, 8, 8, 8, 8, 8, 8, 8, 8, 8, 8, 8, 8, 8, 8, 8, 8, 8, 8, 8, 8, 8, 8, 8, 8, 8, 8, 8, 8, 8, 8, 8, 8, 8, 8, 8, 8, 8, 8, 8, 8, 8, 8, 8, 8, 8, 8, 8, 8, 8, 8, 8, 8, 8, 8, 8, 8, 8, 8, 8, 8, 8, 8, 8, 8, 8, 8, 8, 8, 8, 8, 8, 8, 8, 8, 8, 8, 8, 8, 8, 8, 8, 8, 8]⟩)) (.tmp 15)), none⟩,
 ⟨some 17, (.toInt .i64 (.tmp 16)), none⟩,
 ⟨some 18, (.bin .add .prim (.tmp 13) (.tmp 17)), none⟩,
 ⟨some 2, (.move (.tmp 18)), none⟩])
 .ret))))⟩
theorem F139_ok : cfn tab F139.body Try.f139 = some F139 := by kernel_rfl

/- math/bits.Len64 -/
def F140 : AFn := ⟨25, [.tmp 2],
 (.seq (.region [⟨some 2, (.move (.con (.int .i64 0))), none⟩])
 (.seq (.seq (.region [⟨some 3, (.move (.tmp 0)), none⟩,
 ⟨some 4, (.bin .geq .prim (.tmp 3) (.con (.int .u64 4294967296))), none⟩])
 (.join [true, false, true] (.cond (.tmp 4)
 (.seq (.region [⟨some 5, (.move (.tmp 0)), none⟩,
 ⟨some 6, (.bin .shr .prim (.tmp 5) (.con (.int .u64 32))), none⟩,
 ⟨some 0, (.move (.tmp 6)), none⟩])
 (.region [⟨some 2, (.move (.con (.int .i64 32))), none⟩]))
 .skip)))
 (.seq (.seq (.region [⟨some 7, (.move (.tmp 0)), none⟩,
 ⟨some 8, (.bin .geq .prim (.tmp 7) (.con (.int .u64 65536))), none⟩])
 (.join [true, false, true] (.cond (.tmp 8)
 (.seq (.region [⟨some 9, (.move (.tmp 0)), none⟩,
 ⟨some 10, (.bin .shr .prim (.tmp 9) (.con (.int .u64 16))), none⟩,
 ⟨some 0, (.move (.tmp 10)), none⟩])
 (.region [⟨some 11, (.move (.tmp 2)), none⟩,
 ⟨some 12, (.bin .add .prim (.tmp 11) (.con (.int .i64 16))), none⟩,
 ⟨some 2, (.move (.tmp 12)), none⟩]))
 .skip)))
 (.seq (.seq (.region [⟨some 13, (.move (.tmp 0)), none⟩,
 ⟨some 14, (.bin .geq .prim (.tmp 13) (.con (.int .u64 256))), none⟩])
 (.join [true, false, true] (.cond (.tmp 14)
 (.seq (.region [⟨some 15, (.move (.tmp 0)), none⟩,
 ⟨some 16, (.bin .shr .prim (.tmp 15) (.con (.int .u64 8))), none⟩,
 ⟨some 0, (.move (.tmp 16)), none⟩])
 (.region [⟨some 17, (.move (.tmp 2)), none⟩,
 ⟨some 18, (.bin .add .prim (.tmp 17) (.con (.int .i64 8))), none⟩,
 ⟨some 2, (.move (.tmp 18)), none⟩]))
 .skip)))
 (.seq (.region [⟨some 19, (.move (.tmp 2)), none⟩,
 ⟨some 20, (.move (.tmp 0)), none⟩,
 ⟨some 21, (.toInt .u8 (.tmp 20)), none⟩,
 ⟨some 22, (.indexStr (.con (.str ⟨#[0, 1, 2, 2, 3, 3, 3, 3, 4, 4, 4, 4, 4, 4, 4, 4, 5, 5, 5, 5, 5, 5, 5, 5, 5, 5, 5, 5, 5, 5, 5, 5, 6, 6, 6, 6, 6, 6, 6, 6, 6, 6, 6, 6, 6, 6, 6, 6, 6, 6, 6, 6, 6, 6, 6, 6, 6, 6, 6, 6, 6, 6, 6, 6, 7, 7, 7, 7, 7, 7, 7, 7, 7, 7, 7, 7, 7, 7, 7, 7, 7, 7, 7, 7, 7, 7, 7, 7, 7, 7, 7, 7, 7, 7, 7, 7, 7, 7, 7, 7, 7, 7, 7, 7, 7, 7, 7, 7, 7, 7, 7, 7, 7, 7, 7, 7, 7, 7, 7, 7, 7, 7, 7, 7, 7, 7, 7, 7, 8, 8, 8, 8, 8, 8, 8, 8, 8, 8, 8, 8, 8, 8, 8, 8, 8, 8, 8, 8, 8, 8, 8, 8, 8, 8, 8, 8, 8, 8, 8, 8, 8, 8, 8, 8, 8, 8, 8, 8, 8, 8, 8, 8, 8, 8, 8, 8, 8, 8, 8, 8, 8, 8, 8, 8, 8, 8, 8, 8, 8, 8, 8, 8, 8, 8, 8, 8, 8, 8, 8, 8, 8, 8, 8, 8, 8, 8, 8, 8, 8, 8, 8, 8, 8, 8, 8, 8, 8, 8, 8, 8, 8, 8, 8, 8, 8, 8, 8, 8, 8, 8, 8, 8, 8, 8, 8, 8, 8, 8, 8, 8, 8, 8, 8, 8, 8, 8, 8, 8, 8, 8, 8, 8, 8, 8, 8, 8]⟩)) (.tmp 21)), none⟩,
 ⟨some 23, (.toInt .i64 (.tmp 22)), none⟩,
 ⟨some 24, (.bin .add .prim (.tmp 19) (.tmp 23)), none⟩,
 ⟨some 2, (.move (.tmp 24)), none⟩])
 .ret)))))⟩
theorem F140_ok : cfn tab F140.body Try.f140 = some F140 := by kernel_rfl

/- cmp.isNaN[int] -/
def F141 : AFn := ⟨6, [.tmp 2],
 (.seq (.region [⟨some 2, (.move (.con (.bool false))), none⟩])
 (.seq (.region [⟨some 3, (.move (.tmp 0)), none⟩,
 ⟨some 4, (.move (.tmp 0)), none⟩,
 ⟨some 5, (.bin .neq .prim (.tmp 3) (.tmp 4)), none⟩,
 ⟨some 2, (.move (.tmp 5)), none⟩])
 .ret))⟩
theorem F141_ok : cfn tab F141.body Try.f141 = some F141 := by kernel_rfl

/- (milestone/net.checker).vertex -/
def F143 : AFn := ⟨13, [.tmp 4],
 (.seq (.region [⟨some 2, (.box 1 (.tmp 0)), none⟩,
 ⟨some 4, (.move (.con (.bool false))), none⟩])
 (.seq (.region [⟨some 5, (.move (.tmp 1)), none⟩,
 ⟨some 6, (.bin .geq .prim (.tmp 5) (.con (.int .i64 0))), none⟩,
 ⟨some 7, (.move (.tmp 6)), none⟩,
 ⟨some 8, (.move (.tmp 1)), some (7, true)⟩,
 ⟨some 9, (.fieldAddr 0 (.tmp 2)), some (7, true)⟩,
 ⟨some 10, (.load1 (.tmp 9)), some (7, true)⟩,
 ⟨some 11, (.bin .lss .prim (.tmp 8) (.tmp 10)), some (7, true)⟩,
 ⟨some 12, (.pick (.tmp 7) (.tmp 11) (.con (.bool false))), none⟩,
 ⟨some 4, (.move (.tmp 12)), none⟩])
 .ret))⟩
theorem F143_ok : cfn tab F143.body Try.f143 = some F143 := by kernel_rfl

end Go.Proofs.Ytknhlpmmalcchaa
