/- Functions of the program as the interpreter takes them (printed by a program). -/
import Derived.Test.YtknhlpmmalcchaaGreatG4Ft
set_option linter.all false
set_option linter.unusedVariables false
set_option linter.unusedSimpArgs false
namespace Go.Proofs.YtknhlpmmalcchaaGreat
open Go Go.VAI Go.Proofs
/- (*milestone/hier.builder).first -/
def F32 : AFn := ⟨99,[],
 (.seq (.region [⟨some 12,.mkMap,none⟩,
 ⟨some 2,(.move (.tmp 12)),none⟩])
 (.seq (.region [⟨some 3,(.move (.con .nilSlice)),none⟩])
 (.seq (.seq (.region [⟨some 13,(.move (.tmp 0)),none⟩,
 ⟨some 14,(.nilCheck (.tmp 13)),none⟩,
 ⟨some 15,(.fieldAddr 0 (.tmp 14)),none⟩,
 ⟨some 16,(.fieldAddr 0 (.tmp 15)),none⟩,
 ⟨some 17,(.fieldAddr 1 (.tmp 16)),none⟩,
 ⟨some 18,(.load1 (.tmp 17)),none⟩,
 ⟨some 19,(.lenS (.tmp 18)),none⟩,
 ⟨some 20,(.move (.con (.int .i64 0))),none⟩])
 (.join [true,false,true,true] (.block 0 (.loop [true,false,true,true,false,false,false,false,false,false,false,false,false,false,false,false,false,false,true,true,true] [true,false,true,true]
 (.seq (.region [⟨some 21,(.bin .lss .prim (.tmp 20) (.tmp 19)),none⟩])
 (.seq (.cond (.tmp 21)
 .skip
 (.exit 0))
 (.seq (.block 1 (.seq (.region [⟨some 22,(.move (.tmp 20)),none⟩,
 ⟨some 23,(.indexAddrS 4 (.tmp 18) (.tmp 20)),none⟩,
 ⟨some 24,(.loadN 4 (.tmp 23)),none⟩,
 ⟨some 5,(.alloc [(.int .i64 0),(.int .i64 0),(.int .i64 0),(.int .i64 0)]),none⟩,
 ⟨some 4,(.move (.tmp 22)),none⟩,
 ⟨none,(.store 4 (.tmp 5) (.tmp 24)),none⟩])
 (.seq (.region [⟨some 25,(.fieldAddr 0 (.tmp 5)),none⟩,
 ⟨some 26,(.load1 (.tmp 25)),none⟩,
 ⟨some 27,(.fieldAddr 1 (.tmp 5)),none⟩,
 ⟨some 28,(.load1 (.tmp 27)),none⟩,
 ⟨some 29,(.fieldAddr 2 (.tmp 5)),none⟩,
 ⟨some 30,(.load1 (.tmp 29)),none⟩,
 ⟨some 31,(.build [(.int .i64 0),(.int .i64 0),(.int .i64 0)] [(0,1,(.tmp 26)),(1,1,(.tmp 28)),(2,1,(.tmp 30))]),none⟩,
 ⟨some 6,(.alloc [(.int .i64 0),(.int .i64 0),(.int .i64 0)]),none⟩,
 ⟨none,(.store 3 (.tmp 6) (.tmp 31)),none⟩])
 (.seq (.region [⟨some 33,(.move (.tmp 2)),none⟩,
 ⟨some 34,(.loadN 3 (.tmp 6)),none⟩,
 ⟨some 35,(.lookup (.many [.int,.int,.int]) (.int .i64 0) (.tmp 33) (.tmp 34) true),none⟩,
 ⟨some 32,(.move (.tmp 35)),none⟩,
 ⟨some 36,(.extract (.tmp 32) 0),none⟩,
 ⟨some 37,(.extract (.tmp 32) 1),none⟩,
 ⟨some 7,(.move (.tmp 36)),none⟩,
 ⟨some 8,(.move (.tmp 37)),none⟩])
 (.seq (.seq (.region [⟨some 38,(.move (.tmp 8)),none⟩,
 ⟨some 39,(.un .not (.tmp 38)),none⟩])
 (.join [true,false,true,true,true,true,true,true,true,false,false,false,false,false,false,false,false,false,true,true,true] (.cond (.tmp 39)
 (.region [⟨some 40,(.move (.tmp 3)),none⟩,
 ⟨some 41,(.loadN 3 (.tmp 6)),none⟩,
 ⟨some 42,(.buildSlice [(.int .i64 0),(.int .i64 0),(.int .i64 0)] 1 [(0,3,(.tmp 41))]),none⟩,
 ⟨some 43,(.append 3 24 (.tmp 40) (.tmp 42)),none⟩,
 ⟨some 3,(.move (.tmp 43)),none⟩])
 .skip)))
 (.seq (.dregion [[],[0],[0,1],[1,0,2],[2,0,1,3],[1,0,2],[2,0,1,5],[5,1,0,2,6],[6,2,0,1,5,7],[7,5,1,0,2,6,8],[8,6,2,0,1,5,7,9],[1,0,2],[11,9,7,5,1,0,2,6,8,10],[10,8,6,2,0,1,5,7,9,11,12],[12,11,9,7,5,1,0,2,6,8,10,13],[13,10,8,6,5,7,9,11,12,14,3,1,0,2,4],[4,3,14,12,11,9,7,5,6,8,10,13,15,1,0,2]] [.op 0 ⟨some 44,(.move (.tmp 8)),none⟩,
 .op 1 ⟨some 45,(.un .not (.tmp 44)),none⟩,
 .op 2 ⟨some 46,(.move (.tmp 45)),none⟩,
 .op 3 ⟨some 47,(.fieldAddr 3 (.tmp 5)),some (46,false)⟩,
 .op 4 ⟨some 48,(.load1 (.tmp 47)),some (46,false)⟩,
 .op 5 ⟨some 49,(.move (.tmp 0)),some (46,false)⟩,
 .op 6 ⟨some 50,(.nilCheck (.tmp 49)),some (46,false)⟩,
 .op 7 ⟨some 51,(.fieldAddr 0 (.tmp 50)),some (46,false)⟩,
 .op 8 ⟨some 52,(.fieldAddr 0 (.tmp 51)),some (46,false)⟩,
 .op 9 ⟨some 53,(.fieldAddr 1 (.tmp 52)),some (46,false)⟩,
 .op 10 ⟨some 54,(.load1 (.tmp 53)),some (46,false)⟩,
 .op 11 ⟨some 55,(.move (.tmp 7)),some (46,false)⟩,
 .op 12 ⟨some 56,(.indexAddrS 4 (.tmp 54) (.tmp 55)),some (46,false)⟩,
 .op 13 ⟨some 57,(.fieldAddr 3 (.tmp 56)),some (46,false)⟩,
 .op 14 ⟨some 58,(.load1 (.tmp 57)),some (46,false)⟩,
 .op 15 ⟨some 59,(.bin .lss .prim (.tmp 48) (.tmp 58)),some (46,false)⟩,
 .op 16 ⟨some 60,(.pick (.tmp 46) (.con (.bool true)) (.tmp 59)),none⟩])
 (.cond (.tmp 60)
 (.region [⟨some 61,(.move (.tmp 2)),none⟩,
 ⟨some 62,(.loadN 3 (.tmp 6)),none⟩,
 ⟨some 63,(.move (.tmp 4)),none⟩,
 ⟨none,(.mapUpdate (.many [.int,.int,.int]) (.tmp 61) (.tmp 62) (.tmp 63)),none⟩])
 .skip)))))))
 (.region [⟨some 64,(.bin .add .prim (.tmp 20) (.con (.int .i64 1))),none⟩,
 ⟨some 20,(.move (.tmp 64)),none⟩]))))))))
 (.seq (.region [⟨some 65,(.move (.tmp 3)),none⟩,
 ⟨some 66,(.call 54 [(.tmp 65),(.con (.func (.func 55) [] []))]),none⟩])
 (.seq (.region [⟨some 67,(.move (.tmp 3)),none⟩,
 ⟨some 68,(.lenS (.tmp 67)),none⟩,
 ⟨some 69,(.move (.con (.int .i64 0))),none⟩])
 (.block 2 (.loop [true,false,true,false,false,false,false,false,false,false,false,false,false,false,false,false,false,false,false,false,false,false,false,false,false,false,false,false,false,false,false,false,false,false,false,false,false,false,false,false,false,false,false,false,false,false,false,false,false,false,false,false,false,false,false,false,false,false,false,false,false,false,false,false,false,false,false,true,true,true] []
 (.seq (.region [⟨some 70,(.bin .lss .prim (.tmp 69) (.tmp 68)),none⟩])
 (.seq (.cond (.tmp 70)
 .skip
 (.exit 2))
 (.seq (.block 3 (.seq (.region [⟨some 71,(.indexAddrS 3 (.tmp 67) (.tmp 69)),none⟩,
 ⟨some 72,(.loadN 3 (.tmp 71)),none⟩,
 ⟨some 10,(.alloc [(.int .i64 0),(.int .i64 0),(.int .i64 0)]),none⟩,
 ⟨none,(.store 3 (.tmp 10) (.tmp 72)),none⟩])
 (.seq (.dregion [[],[0],[0,1],[1,0,2],[2,0,1,3],[3,1,0,2,4],[],[],[7,6],[6,7,8,4,2,0,1,3,5],[5,3,1,0,2,4,8,7,6,9],[],[9,6,7,8,4,2,0,1,3,5,10,11]] [.op 0 ⟨some 73,(.move (.tmp 0)),none⟩,
 .op 1 ⟨some 74,(.nilCheck (.tmp 73)),none⟩,
 .op 2 ⟨some 75,(.fieldAddr 0 (.tmp 74)),none⟩,
 .op 3 ⟨some 76,(.fieldAddr 0 (.tmp 75)),none⟩,
 .op 4 ⟨some 77,(.fieldAddr 1 (.tmp 76)),none⟩,
 .op 5 ⟨some 78,(.load1 (.tmp 77)),none⟩,
 .op 6 ⟨some 79,(.move (.tmp 2)),none⟩,
 .op 7 ⟨some 80,(.loadN 3 (.tmp 10)),none⟩,
 .op 8 ⟨some 81,(.lookup (.many [.int,.int,.int]) (.int .i64 0) (.tmp 79) (.tmp 80) false),none⟩,
 .op 9 ⟨some 82,(.indexAddrS 4 (.tmp 78) (.tmp 81)),none⟩,
 .op 10 ⟨some 83,(.loadN 4 (.tmp 82)),none⟩,
 .op 11 ⟨some 11,(.alloc [(.int .i64 0),(.int .i64 0),(.int .i64 0),(.int .i64 0)]),none⟩,
 .op 12 ⟨none,(.store 4 (.tmp 11) (.tmp 83)),none⟩])
 (.dregion [[],[],[1],[],[3],[],[5],[],[7],[],[],[10,9],[9,10,11,7,8,5,6,3,4,1,2],[2,1,4,3,6,5,8,7,11,10,9,12,0]] [.op 0 ⟨some 84,(.move (.tmp 0)),none⟩,
 .op 1 ⟨some 85,(.fieldAddr 0 (.tmp 11)),none⟩,
 .op 2 ⟨some 86,(.load1 (.tmp 85)),none⟩,
 .op 3 ⟨some 87,(.fieldAddr 1 (.tmp 11)),none⟩,
 .op 4 ⟨some 88,(.load1 (.tmp 87)),none⟩,
 .op 5 ⟨some 89,(.fieldAddr 2 (.tmp 11)),none⟩,
 .op 6 ⟨some 90,(.load1 (.tmp 89)),none⟩,
 .op 7 ⟨some 91,(.fieldAddr 3 (.tmp 11)),none⟩,
 .op 8 ⟨some 92,(.load1 (.tmp 91)),none⟩,
 .op 9 ⟨some 93,(.move (.tmp 2)),none⟩,
 .op 10 ⟨some 94,(.loadN 3 (.tmp 10)),none⟩,
 .op 11 ⟨some 95,(.lookup (.many [.int,.int,.int]) (.int .i64 0) (.tmp 93) (.tmp 94) false),none⟩,
 .op 12 ⟨some 96,(.build [(.int .i64 0),(.int .i64 0),(.int .i64 0),(.int .i64 0),(.int .i64 0),(.int .i64 0),(.int .i64 0)] [(0,1,(.tmp 86)),(1,1,(.tmp 88)),(2,1,(.tmp 90)),(3,1,(.tmp 92)),(4,1,(.tmp 95))]),none⟩,
 .op 13 ⟨some 97,(.call 56 [(.tmp 84),(.tmp 96)]),none⟩]))))
 (.region [⟨some 98,(.bin .add .prim (.tmp 69) (.con (.int .i64 1))),none⟩,
 ⟨some 69,(.move (.tmp 98)),none⟩])))))))))))⟩
theorem F32_ok : cfn tab F32.body Tryz.f32 = some F32 := by kernel_rfl

/- milestone/order.Order -/
def F33 : AFn := ⟨63,[.tmp 2],
 (.seq (.region [⟨some 1,(.box 2 (.tmp 0)),none⟩,
 ⟨some 2,(.move (.con .nilSlice)),none⟩])
 (.seq (.region [⟨some 12,(.loadN 2 (.tmp 1)),none⟩,
 ⟨some 13,(.call 57 [(.tmp 12)]),none⟩,
 ⟨some 3,(.move (.tmp 13)),none⟩])
 (.seq (.region [⟨some 14,(.move (.tmp 3)),none⟩,
 ⟨some 15,(.mkFunc (.func 58) [(.tmp 14)] []),none⟩,
 ⟨some 16,(.move (.tmp 3)),none⟩,
 ⟨some 17,(.mkFunc (.func 59) [(.tmp 16)] []),none⟩,
 ⟨some 4,(.move (.tmp 15)),none⟩,
 ⟨some 5,(.move (.tmp 17)),none⟩])
 (.seq (.region [⟨some 6,(.move (.con .nilSlice)),none⟩])
 (.seq (.seq (.region [⟨some 18,(.loadN 2 (.tmp 1)),none⟩,
 ⟨some 19,(.call 60 [(.tmp 18)]),none⟩,
 ⟨some 20,(.lenS (.tmp 19)),none⟩,
 ⟨some 21,(.move (.con (.int .i64 0))),none⟩])
 (.join [false,false,true,false,false,false,true] (.block 0 (.loop [false,false,false,false,true,true,true,false,false,false,false,false,false,false,false,false,false,false,false,true,true,true] [false,false,true,false,false,false,true]
 (.seq (.region [⟨some 22,(.bin .lss .prim (.tmp 21) (.tmp 20)),none⟩])
 (.seq (.cond (.tmp 22)
 .skip
 (.exit 0))
 (.seq (.block 1 (.seq (.region [⟨some 23,(.move (.tmp 21)),none⟩,
 ⟨some 24,(.indexAddrS 1 (.tmp 19) (.tmp 21)),none⟩,
 ⟨some 25,(.load1 (.tmp 24)),none⟩,
 ⟨some 7,(.move (.tmp 23)),none⟩,
 ⟨some 8,(.move (.tmp 25)),none⟩])
 (.seq (.region [⟨some 26,(.move (.tmp 8)),none⟩,
 ⟨some 27,(.un .not (.tmp 26)),none⟩])
 (.cond (.tmp 27)
 (.region [⟨some 28,(.move (.tmp 6)),none⟩,
 ⟨some 29,(.move (.tmp 7)),none⟩,
 ⟨some 30,(.move (.tmp 4)),none⟩,
 ⟨some 31,(.move (.tmp 7)),none⟩,
 ⟨some 32,(.callv (.tmp 30) [(.tmp 31)]),none⟩,
 ⟨some 33,(.lenS (.tmp 32)),none⟩,
 ⟨some 34,(.move (.tmp 5)),none⟩,
 ⟨some 35,(.move (.tmp 7)),none⟩,
 ⟨some 36,(.callv (.tmp 34) [(.tmp 35)]),none⟩,
 ⟨some 37,(.lenS (.tmp 36)),none⟩,
 ⟨some 38,(.bin .add .prim (.tmp 33) (.tmp 37)),none⟩,
 ⟨some 39,(.build [(.int .i64 0),(.int .i64 0)] [(0,1,(.tmp 29)),(1,1,(.tmp 38))]),none⟩,
 ⟨some 40,(.buildSlice [(.int .i64 0),(.int .i64 0)] 1 [(0,2,(.tmp 39))]),none⟩,
 ⟨some 41,(.append 2 16 (.tmp 28) (.tmp 40)),none⟩,
 ⟨some 6,(.move (.tmp 41)),none⟩])
 .skip))))
 (.region [⟨some 42,(.bin .add .prim (.tmp 21) (.con (.int .i64 1))),none⟩,
 ⟨some 21,(.move (.tmp 42)),none⟩]))))))))
 (.seq (.region [⟨some 43,(.move (.tmp 6)),none⟩,
 ⟨some 44,(.call 61 [(.tmp 43),(.con (.func (.func 62) [] []))]),none⟩])
 (.seq (.region [⟨some 9,(.move (.con .nilSlice)),none⟩])
 (.seq (.seq (.region [⟨some 45,(.move (.tmp 6)),none⟩,
 ⟨some 46,(.lenS (.tmp 45)),none⟩,
 ⟨some 47,(.move (.con (.int .i64 0))),none⟩])
 (.join [false,false,true,false,false,false,false,false,false,true] (.block 2 (.loop [false,false,false,false,false,false,false,false,false,true,false,false,false,false,false,false,false,false,false,false,false,false,false,false,false,false,false,false,false,false,false,false,false,false,false,false,false,false,false,false,false,false,false,false,false,true,true,true] [false,false,true,false,false,false,false,false,false,true]
 (.seq (.region [⟨some 48,(.bin .lss .prim (.tmp 47) (.tmp 46)),none⟩])
 (.seq (.cond (.tmp 48)
 .skip
 (.exit 2))
 (.seq (.block 3 (.seq (.region [⟨some 49,(.indexAddrS 2 (.tmp 45) (.tmp 47)),none⟩,
 ⟨some 50,(.loadN 2 (.tmp 49)),none⟩,
 ⟨some 11,(.alloc [(.int .i64 0),(.int .i64 0)]),none⟩,
 ⟨none,(.store 2 (.tmp 11) (.tmp 50)),none⟩])
 (.region [⟨some 51,(.move (.tmp 9)),none⟩,
 ⟨some 52,(.fieldAddr 0 (.tmp 11)),none⟩,
 ⟨some 53,(.load1 (.tmp 52)),none⟩,
 ⟨some 54,(.buildSlice [(.int .i64 0)] 1 [(0,1,(.tmp 53))]),none⟩,
 ⟨some 55,(.append 1 8 (.tmp 51) (.tmp 54)),none⟩,
 ⟨some 9,(.move (.tmp 55)),none⟩])))
 (.region [⟨some 56,(.bin .add .prim (.tmp 47) (.con (.int .i64 1))),none⟩,
 ⟨some 47,(.move (.tmp 56)),none⟩]))))))))
 (.seq (.region [⟨some 57,(.move (.tmp 9)),none⟩,
 ⟨some 58,(.move (.tmp 9)),none⟩,
 ⟨some 59,(.lenS (.tmp 58)),none⟩,
 ⟨some 60,(.move (.tmp 9)),none⟩,
 ⟨some 61,(.lenS (.tmp 60)),none⟩,
 ⟨some 62,(.slice 1 (.tmp 57) none (some (.tmp 59)) (some (.tmp 61))),none⟩,
 ⟨some 2,(.move (.tmp 62)),none⟩])
 .ret)))))))))⟩
theorem F33_ok : cfn tab F33.body Tryz.f33 = some F33 := by kernel_rfl

/- (*milestone/hier.builder).goes -/
def F34 : AFn := ⟨70,[],
 (.seq (.region [⟨some 2,(.box 1 (.tmp 0)),none⟩,
 ⟨some 3,(.box 1 (.tmp 1)),none⟩])
 (.seq (.region [⟨some 11,(.load1 (.tmp 2)),none⟩,
 ⟨some 12,(.mkFunc (.func 64) [] [(.tmp 3),(.tmp 2)]),none⟩,
 ⟨some 13,(.call 35 [(.tmp 11),(.tmp 12)]),none⟩,
 ⟨some 4,(.move (.tmp 13)),none⟩])
 (.seq (.region [⟨some 14,(.load1 (.tmp 2)),none⟩,
 ⟨some 15,(.mkFunc (.func 65) [] [(.tmp 3),(.tmp 2)]),none⟩,
 ⟨some 16,(.call 35 [(.tmp 14),(.tmp 15)]),none⟩,
 ⟨some 5,(.move (.tmp 16)),none⟩])
 (.seq (.dregion [[],[0],[0,1],[1,0,2],[2,0,1,3],[],[],[6],[6,7],[7,6,8],[8,6,7,9],[],[],[],[12,9,7,6,8,10,5,3,1,0,2,4],[4,2,0,1,3,5,10,8,6,7,9,12,14],[15,14,13,12,5,4,3,2,1,0,11,9,7,6,8,10],[10,8,6,7,9,11,0,1,2,3,4,5,12,13,14,15,16]] [.op 0 ⟨some 17,(.load1 (.tmp 2)),none⟩,
 .op 1 ⟨some 18,(.nilCheck (.tmp 17)),none⟩,
 .op 2 ⟨some 19,(.fieldAddr 0 (.tmp 18)),none⟩,
 .op 3 ⟨some 20,(.fieldAddr 4 (.tmp 19)),none⟩,
 .op 4 ⟨some 21,(.load1 (.tmp 20)),none⟩,
 .op 5 ⟨some 22,(.load1 (.tmp 3)),none⟩,
 .op 6 ⟨some 23,(.load1 (.tmp 2)),none⟩,
 .op 7 ⟨some 24,(.nilCheck (.tmp 23)),none⟩,
 .op 8 ⟨some 25,(.fieldAddr 0 (.tmp 24)),none⟩,
 .op 9 ⟨some 26,(.fieldAddr 5 (.tmp 25)),none⟩,
 .op 10 ⟨some 27,(.load1 (.tmp 26)),none⟩,
 .op 11 ⟨some 28,(.load1 (.tmp 3)),none⟩,
 .op 12 ⟨some 29,(.move (.tmp 4)),none⟩,
 .op 13 ⟨some 30,(.move (.tmp 5)),none⟩,
 .op 14 ⟨some 31,(.indexAddrS 1 (.tmp 21) (.tmp 22)),none⟩,
 .op 15 ⟨none,(.store 1 (.tmp 31) (.tmp 29)),none⟩,
 .re 11 ⟨some 28,(.load1 (.tmp 3)),none⟩,
 .op 16 ⟨some 32,(.indexAddrS 1 (.tmp 27) (.tmp 28)),none⟩,
 .op 17 ⟨none,(.store 1 (.tmp 32) (.tmp 30)),none⟩])
 (.seq (.region [⟨some 33,(.load1 (.tmp 2)),none⟩,
 ⟨some 34,(.mkFunc (.func 66) [(.tmp 33)] []),none⟩,
 ⟨some 6,(.move (.tmp 34)),none⟩])
 (.seq (.seq (.region [⟨some 35,(.move (.tmp 5)),none⟩,
 ⟨some 36,(.lenS (.tmp 35)),none⟩,
 ⟨some 37,(.move (.con (.int .i64 0))),none⟩])
 (.join [false,false,true,true] (.block 0 (.loop [false,false,true,true,true,false,true,false,false,false,false,false,false,false,false,false,false,false,false,false,false,false,false,false,false,false,false,false,false,false,false,false,false,false,false,true,true,true] [false,false,true,true]
 (.seq (.region [⟨some 38,(.bin .lss .prim (.tmp 37) (.tmp 36)),none⟩])
 (.seq (.cond (.tmp 38)
 .skip
 (.exit 0))
 (.seq (.block 1 (.seq (.region [⟨some 39,(.indexAddrS 1 (.tmp 35) (.tmp 37)),none⟩,
 ⟨some 40,(.load1 (.tmp 39)),none⟩,
 ⟨some 8,(.move (.tmp 40)),none⟩])
 (.seq (.region [⟨some 41,(.move (.tmp 4)),none⟩,
 ⟨some 42,(.lenS (.tmp 41)),none⟩,
 ⟨some 43,(.move (.con (.int .i64 0))),none⟩])
 (.block 2 (.loop [false,false,true,true,true,false,true,false,true,false,false,false,false,false,false,false,false,false,false,false,false,false,false,false,false,false,false,false,false,false,false,false,false,false,false,true,true,true,false,false,false,true,true,true] [false,false,true,true,true,false,true,false,false,false,false,false,false,false,false,false,false,false,false,false,false,false,false,false,false,false,false,false,false,false,false,false,false,false,false,true,true,true]
 (.seq (.region [⟨some 44,(.bin .lss .prim (.tmp 43) (.tmp 42)),none⟩])
 (.seq (.cond (.tmp 44)
 .skip
 (.exit 2))
 (.seq (.block 3 (.seq (.region [⟨some 45,(.indexAddrS 1 (.tmp 41) (.tmp 43)),none⟩,
 ⟨some 46,(.load1 (.tmp 45)),none⟩,
 ⟨some 10,(.move (.tmp 46)),none⟩])
 (.seq (.dregion [[],[0],[0,1],[1,0,2],[2,0,1,3],[],[5,3,1,0,2,4],[4,2,0,1,3,5,6],[6,5,3,1,0,2,4,7],[],[9,7,4,2,0,1,3,5,6,8]] [.op 0 ⟨some 47,(.load1 (.tmp 2)),none⟩,
 .op 1 ⟨some 48,(.nilCheck (.tmp 47)),none⟩,
 .op 2 ⟨some 49,(.fieldAddr 0 (.tmp 48)),none⟩,
 .op 3 ⟨some 50,(.fieldAddr 3 (.tmp 49)),none⟩,
 .op 4 ⟨some 51,(.load1 (.tmp 50)),none⟩,
 .op 5 ⟨some 52,(.move (.tmp 10)),none⟩,
 .op 6 ⟨some 53,(.indexAddrS 7 (.tmp 51) (.tmp 52)),none⟩,
 .op 7 ⟨some 54,(.fieldAddr 1 (.tmp 53)),none⟩,
 .op 8 ⟨some 55,(.load1 (.tmp 54)),none⟩,
 .op 9 ⟨some 56,(.load1 (.tmp 3)),none⟩,
 .op 10 ⟨some 57,(.bin .neq .prim (.tmp 55) (.tmp 56)),none⟩])
 (.cond (.tmp 57)
 (.region [⟨some 58,(.move (.tmp 6)),none⟩,
 ⟨some 59,(.move (.tmp 8)),none⟩,
 ⟨some 60,(.move (.tmp 10)),none⟩,
 ⟨some 61,(.callv (.tmp 58) [(.tmp 59),(.tmp 60)]),none⟩])
 .skip))))
 (.region [⟨some 62,(.bin .add .prim (.tmp 43) (.con (.int .i64 1))),none⟩,
 ⟨some 43,(.move (.tmp 62)),none⟩])))))))))
 (.region [⟨some 63,(.bin .add .prim (.tmp 37) (.con (.int .i64 1))),none⟩,
 ⟨some 37,(.move (.tmp 63)),none⟩]))))))))
 (.dregion [[],[0],[0,1],[1,0,2],[],[4,2,0,1,3],[3,1,0,2,4,5]] [.op 0 ⟨some 64,(.load1 (.tmp 2)),none⟩,
 .op 1 ⟨some 65,(.nilCheck (.tmp 64)),none⟩,
 .op 2 ⟨some 66,(.fieldAddr 7 (.tmp 65)),none⟩,
 .op 3 ⟨some 67,(.load1 (.tmp 66)),none⟩,
 .op 4 ⟨some 68,(.load1 (.tmp 3)),none⟩,
 .op 5 ⟨some 69,(.indexAddrS 1 (.tmp 67) (.tmp 68)),none⟩,
 .op 6 ⟨none,(.store 1 (.tmp 69) (.con (.bool true))),none⟩])))))))⟩
theorem F34_ok : cfn tab F34.body Tryz.f34 = some F34 := by kernel_rfl

/- milestone/hier.Build$1 -/
def F36 : AFn := ⟨20,[.tmp 4],
 (.seq (.region [⟨some 3,(.box 3 (.tmp 0)),none⟩,
 ⟨some 4,(.move (.con (.bool false))),none⟩])
 (.seq (.dregion [[],[0],[],[2,0,1],[1,0,2,3],[3,2,0,1,4],[4,1,0,2,3,5],[5,3,2,0,1,4,6],[6,4,1,0,2,3,5,7],[3,2,0,1,4],[4,1,0,2,3,9],[9,10,7,5,3,2,0,1,4,6,8],[8,6,4,1,0,2,3,5,7,10,9,11],[11,9,10,7,5,3,2,0,1,4,6,8,12],[12,8,6,5,7,10,9,11,13,3,2,0,1,4],[4,1,0,2,3,13,11,9,10,7,5,6,8,12,14]] [.op 0 ⟨some 5,(.fieldAddr 0 (.tmp 3)),none⟩,
 .op 1 ⟨some 6,(.load1 (.tmp 5)),none⟩,
 .op 2 ⟨some 7,(.load1 (.tmp 1)),none⟩,
 .op 3 ⟨some 8,(.bin .eql .prim (.tmp 6) (.tmp 7)),none⟩,
 .op 4 ⟨some 9,(.move (.tmp 8)),none⟩,
 .op 5 ⟨some 10,(.load1 (.tmp 2)),some (9,true)⟩,
 .op 6 ⟨some 11,(.nilCheck (.tmp 10)),some (9,true)⟩,
 .op 7 ⟨some 12,(.fieldAddr 7 (.tmp 11)),some (9,true)⟩,
 .op 8 ⟨some 13,(.load1 (.tmp 12)),some (9,true)⟩,
 .op 9 ⟨some 14,(.fieldAddr 1 (.tmp 3)),some (9,true)⟩,
 .op 10 ⟨some 15,(.load1 (.tmp 14)),some (9,true)⟩,
 .op 11 ⟨some 16,(.indexAddrS 1 (.tmp 13) (.tmp 15)),some (9,true)⟩,
 .op 12 ⟨some 17,(.load1 (.tmp 16)),some (9,true)⟩,
 .op 13 ⟨some 18,(.un .not (.tmp 17)),some (9,true)⟩,
 .op 14 ⟨some 19,(.pick (.tmp 9) (.tmp 18) (.con (.bool false))),none⟩,
 .op 15 ⟨some 4,(.move (.tmp 19)),none⟩])
 .ret))⟩
theorem F36_ok : cfn tab F36.body Tryz.f36 = some F36 := by kernel_rfl

/- slices.Clone[[]milestone/api.Arc,milestone/api.Arc] -/
def F37 : AFn := ⟨8,[.tmp 2],
 (.seq (.region [⟨some 2,(.move (.con .nilSlice)),none⟩])
 (.seq (.seq (.region [⟨some 3,(.move (.tmp 0)),none⟩,
 ⟨some 4,(.bin .eql .nilS (.tmp 3) (.con .nilSlice)),none⟩])
 (.cond (.tmp 4)
 (.seq (.region [⟨some 2,(.move (.con .nilSlice)),none⟩])
 .ret)
 .skip))
 (.seq (.region [⟨some 5,(.buildSlice [] 0 []),none⟩,
 ⟨some 6,(.move (.tmp 0)),none⟩,
 ⟨some 7,(.append 7 56 (.tmp 5) (.tmp 6)),none⟩,
 ⟨some 2,(.move (.tmp 7)),none⟩])
 .ret)))⟩
theorem F37_ok : cfn tab F37.body Tryz.f37 = some F37 := by kernel_rfl

/- milestone/milestoneref1.Same -/
def F38 : AFn := ⟨38,[.tmp 4],
 (.seq (.region [⟨some 2,(.box 2 (.tmp 0)),none⟩,
 ⟨some 3,(.box 2 (.tmp 1)),none⟩,
 ⟨some 4,(.move (.con (.bool false))),none⟩])
 (.seq (.seq (.region [⟨some 6,(.fieldAddr 0 (.tmp 2)),none⟩,
 ⟨some 7,(.load1 (.tmp 6)),none⟩,
 ⟨some 8,(.fieldAddr 0 (.tmp 3)),none⟩,
 ⟨some 9,(.load1 (.tmp 8)),none⟩,
 ⟨some 10,(.bin .neq .prim (.tmp 7) (.tmp 9)),none⟩,
 ⟨some 11,(.move (.tmp 10)),none⟩,
 ⟨some 12,(.fieldAddr 1 (.tmp 2)),some (11,false)⟩,
 ⟨some 13,(.load1 (.tmp 12)),some (11,false)⟩,
 ⟨some 14,(.lenS (.tmp 13)),some (11,false)⟩,
 ⟨some 15,(.fieldAddr 1 (.tmp 3)),some (11,false)⟩,
 ⟨some 16,(.load1 (.tmp 15)),some (11,false)⟩,
 ⟨some 17,(.lenS (.tmp 16)),some (11,false)⟩,
 ⟨some 18,(.bin .neq .prim (.tmp 14) (.tmp 17)),some (11,false)⟩,
 ⟨some 19,(.pick (.tmp 11) (.con (.bool true)) (.tmp 18)),none⟩])
 (.cond (.tmp 19)
 (.seq (.region [⟨some 4,(.move (.con (.bool false))),none⟩])
 .ret)
 .skip))
 (.seq (.seq (.region [⟨some 5,(.move (.con (.int .i64 0))),none⟩])
 (.join [false,false,false,false,true] (.block 0 (.loop [false,false,true,true,false,true] [false,false,false,false,true]
 (.seq (.seq (.region [⟨some 20,(.move (.tmp 5)),none⟩,
 ⟨some 21,(.fieldAddr 1 (.tmp 2)),none⟩,
 ⟨some 22,(.load1 (.tmp 21)),none⟩,
 ⟨some 23,(.lenS (.tmp 22)),none⟩,
 ⟨some 24,(.bin .lss .prim (.tmp 20) (.tmp 23)),none⟩])
 (.cond (.tmp 24)
 .skip
 (.exit 0)))
 (.seq (.block 1 (.seq (.dregion [[],[0],[],[2,0,1],[1,0,2,3],[],[5],[],[7,5,6],[6,5,7,8],[8,7,5,6,9,3,2,0,1,4]] [.op 0 ⟨some 27,(.fieldAddr 1 (.tmp 2)),none⟩,
 .op 1 ⟨some 28,(.load1 (.tmp 27)),none⟩,
 .op 2 ⟨some 29,(.move (.tmp 5)),none⟩,
 .op 3 ⟨some 30,(.indexAddrS 4 (.tmp 28) (.tmp 29)),none⟩,
 .op 4 ⟨some 31,(.loadN 4 (.tmp 30)),none⟩,
 .op 5 ⟨some 32,(.fieldAddr 1 (.tmp 3)),none⟩,
 .op 6 ⟨some 33,(.load1 (.tmp 32)),none⟩,
 .op 7 ⟨some 34,(.move (.tmp 5)),none⟩,
 .op 8 ⟨some 35,(.indexAddrS 4 (.tmp 33) (.tmp 34)),none⟩,
 .op 9 ⟨some 36,(.loadN 4 (.tmp 35)),none⟩,
 .op 10 ⟨some 37,(.bin .neq (.flat [.int,.int,.int,.int]) (.tmp 31) (.tmp 36)),none⟩])
 (.cond (.tmp 37)
 (.seq (.region [⟨some 4,(.move (.con (.bool false))),none⟩])
 .ret)
 .skip)))
 (.region [⟨some 25,(.move (.tmp 5)),none⟩,
 ⟨some 26,(.bin .add .prim (.tmp 25) (.con (.int .i64 1))),none⟩,
 ⟨some 5,(.move (.tmp 26)),none⟩])))))))
 (.seq (.region [⟨some 4,(.move (.con (.bool true))),none⟩])
 .ret))))⟩
theorem F38_ok : cfn tab F38.body Tryz.f38 = some F38 := by kernel_rfl

/- milestone/milestoneref1.Ints -/
def F39 : AFn := ⟨26,[.tmp 4],
 (.seq (.region [⟨some 4,(.move (.con (.bool false))),none⟩])
 (.seq (.seq (.region [⟨some 6,(.move (.tmp 0)),none⟩,
 ⟨some 7,(.lenS (.tmp 6)),none⟩,
 ⟨some 8,(.move (.tmp 1)),none⟩,
 ⟨some 9,(.lenS (.tmp 8)),none⟩,
 ⟨some 10,(.bin .neq .prim (.tmp 7) (.tmp 9)),none⟩])
 (.cond (.tmp 10)
 (.seq (.region [⟨some 4,(.move (.con (.bool false))),none⟩])
 .ret)
 .skip))
 (.seq (.seq (.region [⟨some 5,(.move (.con (.int .i64 0))),none⟩])
 (.join [false,false,false,false,true] (.block 0 (.loop [true,true,false,false,false,true] [false,false,false,false,true]
 (.seq (.seq (.region [⟨some 11,(.move (.tmp 5)),none⟩,
 ⟨some 12,(.move (.tmp 0)),none⟩,
 ⟨some 13,(.lenS (.tmp 12)),none⟩,
 ⟨some 14,(.bin .lss .prim (.tmp 11) (.tmp 13)),none⟩])
 (.cond (.tmp 14)
 .skip
 (.exit 0)))
 (.seq (.block 1 (.seq (.dregion [[],[],[1,0],[0,1,2],[],[],[5,4],[4,5,6],[6,5,4,7,2,1,0,3]] [.op 0 ⟨some 17,(.move (.tmp 0)),none⟩,
 .op 1 ⟨some 18,(.move (.tmp 5)),none⟩,
 .op 2 ⟨some 19,(.indexAddrS 1 (.tmp 17) (.tmp 18)),none⟩,
 .op 3 ⟨some 20,(.load1 (.tmp 19)),none⟩,
 .op 4 ⟨some 21,(.move (.tmp 1)),none⟩,
 .op 5 ⟨some 22,(.move (.tmp 5)),none⟩,
 .op 6 ⟨some 23,(.indexAddrS 1 (.tmp 21) (.tmp 22)),none⟩,
 .op 7 ⟨some 24,(.load1 (.tmp 23)),none⟩,
 .op 8 ⟨some 25,(.bin .neq .prim (.tmp 20) (.tmp 24)),none⟩])
 (.cond (.tmp 25)
 (.seq (.region [⟨some 4,(.move (.con (.bool false))),none⟩])
 .ret)
 .skip)))
 (.region [⟨some 15,(.move (.tmp 5)),none⟩,
 ⟨some 16,(.bin .add .prim (.tmp 15) (.con (.int .i64 1))),none⟩,
 ⟨some 5,(.move (.tmp 16)),none⟩])))))))
 (.seq (.region [⟨some 4,(.move (.con (.bool true))),none⟩])
 .ret))))⟩
theorem F39_ok : cfn tab F39.body Tryz.f39 = some F39 := by kernel_rfl

/- (*milestone/milestoneref11.work).at -/
def F40 : AFn := ⟨22,[.tmp 8],
 (.seq (.region [⟨some 8,(.move (.con (.int .i64 0))),none⟩])
 (.seq (.region [⟨some 9,(.move (.tmp 1)),none⟩,
 ⟨some 10,(.move (.tmp 0)),none⟩,
 ⟨some 11,(.nilCheck (.tmp 10)),none⟩,
 ⟨some 12,(.fieldAddr 0 (.tmp 11)),none⟩,
 ⟨some 13,(.fieldAddr 0 (.tmp 12)),none⟩,
 ⟨some 14,(.fieldAddr 0 (.tmp 13)),none⟩,
 ⟨some 15,(.load1 (.tmp 14)),none⟩,
 ⟨some 16,(.bin .mul .prim (.tmp 9) (.tmp 15)),none⟩,
 ⟨some 17,(.move (.tmp 2)),none⟩,
 ⟨some 18,(.bin .add .prim (.tmp 16) (.tmp 17)),none⟩,
 ⟨some 19,(.bin .mul .prim (.tmp 18) (.con (.int .i64 5))),none⟩,
 ⟨some 20,(.move (.tmp 3)),none⟩,
 ⟨some 21,(.bin .add .prim (.tmp 19) (.tmp 20)),none⟩,
 ⟨some 8,(.move (.tmp 21)),none⟩])
 .ret))⟩
theorem F40_ok : cfn tab F40.body Tryz.f40 = some F40 := by kernel_rfl

/- (*milestone/milestoneref11.work).arc -/
def F41 : AFn := ⟨35,[],
 (.seq (.region [⟨some 3,(.box 7 (.tmp 1)),none⟩])
 (.seq (.dregion [[],[],[1],[1,2],[2,1,3],[3,1,2,4],[],[6],[6,7,4,2,1,3,5],[8,7,6,5,4,3,2,1,0],[0,1,2,3,4,5,6,7,8,9],[9,8,7,6,5,4,3,2,1,0,10],[10,0,1,2,3,4,5,6,7,8,9,11]] [.op 0 ⟨some 4,(.move (.tmp 0)),none⟩,
 .op 1 ⟨some 5,(.move (.tmp 0)),none⟩,
 .op 2 ⟨some 6,(.nilCheck (.tmp 5)),none⟩,
 .op 3 ⟨some 7,(.fieldAddr 0 (.tmp 6)),none⟩,
 .op 4 ⟨some 8,(.fieldAddr 3 (.tmp 7)),none⟩,
 .op 5 ⟨some 9,(.load1 (.tmp 8)),none⟩,
 .op 6 ⟨some 10,(.loadN 7 (.tmp 3)),none⟩,
 .op 7 ⟨some 11,(.buildSlice [(.int .i64 0),(.int .i64 0),(.int .i64 0),(.int .i64 0),(.int .i64 0),(.int .i64 0),(.int .i64 0)] 1 [(0,7,(.tmp 10))]),none⟩,
 .op 8 ⟨some 12,(.append 7 56 (.tmp 9) (.tmp 11)),none⟩,
 .op 9 ⟨some 13,(.nilCheck (.tmp 4)),none⟩,
 .op 10 ⟨some 14,(.fieldAddr 0 (.tmp 13)),none⟩,
 .op 11 ⟨some 15,(.fieldAddr 3 (.tmp 14)),none⟩,
 .op 12 ⟨none,(.store 1 (.tmp 15) (.tmp 12)),none⟩])
 (.dregion [[],[0],[0,1],[1,0,2],[],[],[5],[],[7],[],[9],[9,10,7,8,5,6,4],[],[12],[12,13],[13,12,14],[14,12,13,15],[15,13,12,14,16],[17,16,15,14,13,12,4,6,5,8,7,10,9,11,2,0,1,3],[3,1,0,2,11,9,10,7,8,5,6,4,12,13,14,15,16,17,18]] [.op 0 ⟨some 16,(.move (.tmp 0)),none⟩,
 .op 1 ⟨some 17,(.nilCheck (.tmp 16)),none⟩,
 .op 2 ⟨some 18,(.fieldAddr 6 (.tmp 17)),none⟩,
 .op 3 ⟨some 19,(.load1 (.tmp 18)),none⟩,
 .op 4 ⟨some 20,(.move (.tmp 0)),none⟩,
 .op 5 ⟨some 21,(.fieldAddr 0 (.tmp 3)),none⟩,
 .op 6 ⟨some 22,(.load1 (.tmp 21)),none⟩,
 .op 7 ⟨some 23,(.fieldAddr 1 (.tmp 3)),none⟩,
 .op 8 ⟨some 24,(.load1 (.tmp 23)),none⟩,
 .op 9 ⟨some 25,(.fieldAddr 2 (.tmp 3)),none⟩,
 .op 10 ⟨some 26,(.load1 (.tmp 25)),none⟩,
 .op 12 ⟨some 28,(.move (.tmp 0)),none⟩,
 .op 13 ⟨some 29,(.nilCheck (.tmp 28)),none⟩,
 .op 14 ⟨some 30,(.fieldAddr 0 (.tmp 29)),none⟩,
 .op 15 ⟨some 31,(.fieldAddr 3 (.tmp 30)),none⟩,
 .op 16 ⟨some 32,(.load1 (.tmp 31)),none⟩,
 .op 17 ⟨some 33,(.lenS (.tmp 32)),none⟩,
 .op 11 ⟨some 27,(.call 40 [(.tmp 20),(.tmp 22),(.tmp 24),(.tmp 26)]),none⟩,
 .re 3 ⟨some 19,(.load1 (.tmp 18)),none⟩,
 .re 16 ⟨some 32,(.load1 (.tmp 31)),none⟩,
 .op 18 ⟨some 34,(.indexAddrS 1 (.tmp 19) (.tmp 27)),none⟩,
 .op 19 ⟨none,(.store 1 (.tmp 34) (.tmp 33)),none⟩])))⟩
theorem F41_ok : cfn tab F41.body Tryz.f41 = some F41 := by kernel_rfl

/- milestone/milestoneref2.New -/
def F42 : AFn := ⟨6,[.tmp 2],
 (.seq (.region [⟨some 1,(.box 2 (.tmp 0)),none⟩,
 ⟨some 2,(.move (.con .nilPtr)),none⟩])
 (.seq (.region [⟨some 3,(.loadN 2 (.tmp 1)),none⟩,
 ⟨some 4,(.build [(.int .i64 0),.nilSlice] [(0,2,(.tmp 3))]),none⟩,
 ⟨some 5,(.box 2 (.tmp 4)),none⟩,
 ⟨some 2,(.move (.tmp 5)),none⟩])
 .ret))⟩
theorem F42_ok : cfn tab F42.body Tryz.f42 = some F42 := by kernel_rfl

/- milestone/milestoneref10.Links -/
def F43 : AFn := ⟨34,[.tmp 2],
 (.seq (.region [⟨some 1,(.box 2 (.tmp 0)),none⟩,
 ⟨some 2,(.move (.con .nilSlice)),none⟩])
 (.seq (.region [⟨some 8,(.loadN 2 (.tmp 1)),none⟩,
 ⟨some 9,(.call 42 [(.tmp 8)]),none⟩,
 ⟨some 3,(.move (.tmp 9)),none⟩])
 (.seq (.region [⟨some 4,(.move (.con .nilSlice)),none⟩])
 (.seq (.seq (.region [⟨some 5,(.move (.con (.int .i64 0))),none⟩])
 (.join [false,false,true,false,true] (.block 0 (.loop [false,true,false,true,true,true] [false,false,true,false,true]
 (.seq (.seq (.region [⟨some 10,(.move (.tmp 5)),none⟩,
 ⟨some 11,(.fieldAddr 0 (.tmp 1)),none⟩,
 ⟨some 12,(.load1 (.tmp 11)),none⟩,
 ⟨some 13,(.bin .lss .prim (.tmp 10) (.tmp 12)),none⟩])
 (.cond (.tmp 13)
 .skip
 (.exit 0)))
 (.seq (.block 1 (.seq (.region [⟨some 6,(.move (.con (.int .i64 0))),none⟩])
 (.seq (.seq (.region [⟨some 7,(.move (.con (.int .u64 0))),none⟩])
 (.join [false,true,true,true,true,true,true] (.block 2 (.loop [false,true,false,true,true,true,true,true] [false,true,true,true,true,true,true]
 (.seq (.seq (.region [⟨some 16,(.move (.tmp 7)),none⟩,
 ⟨some 17,(.bin .lss .prim (.tmp 16) (.con (.int .u64 5))),none⟩])
 (.cond (.tmp 17)
 .skip
 (.exit 2)))
 (.seq (.block 3 (.region [⟨some 20,(.move (.tmp 6)),none⟩,
 ⟨some 21,(.move (.tmp 3)),none⟩,
 ⟨some 22,(.move (.tmp 5)),none⟩,
 ⟨some 23,(.call 68 [(.tmp 21),(.tmp 22)]),none⟩,
 ⟨some 24,(.move (.tmp 7)),none⟩,
 ⟨some 25,(.bin .shr .prim (.tmp 23) (.tmp 24)),none⟩,
 ⟨some 26,(.bin .and .prim (.tmp 25) (.con (.int .i64 1))),none⟩,
 ⟨some 27,(.bin .add .prim (.tmp 20) (.tmp 26)),none⟩,
 ⟨some 6,(.move (.tmp 27)),none⟩]))
 (.region [⟨some 18,(.move (.tmp 7)),none⟩,
 ⟨some 19,(.bin .add .prim (.tmp 18) (.con (.int .u64 1))),none⟩,
 ⟨some 7,(.move (.tmp 19)),none⟩])))))))
 (.region [⟨some 28,(.move (.tmp 4)),none⟩,
 ⟨some 29,(.move (.tmp 6)),none⟩,
 ⟨some 30,(.bin .geq .prim (.tmp 29) (.con (.int .i64 2))),none⟩,
 ⟨some 31,(.buildSlice [(.bool false)] 1 [(0,1,(.tmp 30))]),none⟩,
 ⟨some 32,(.append 1 1 (.tmp 28) (.tmp 31)),none⟩,
 ⟨some 4,(.move (.tmp 32)),none⟩]))))
 (.region [⟨some 14,(.move (.tmp 5)),none⟩,
 ⟨some 15,(.bin .add .prim (.tmp 14) (.con (.int .i64 1))),none⟩,
 ⟨some 5,(.move (.tmp 15)),none⟩])))))))
 (.seq (.region [⟨some 33,(.move (.tmp 4)),none⟩,
 ⟨some 2,(.move (.tmp 33)),none⟩])
 .ret)))))⟩
theorem F43_ok : cfn tab F43.body Tryz.f43 = some F43 := by kernel_rfl

/- (*milestone/milestoneref2.Adj).Out -/
def F44 : AFn := ⟨33,[.tmp 4],
 (.seq (.region [⟨some 4,(.move (.con .nilSlice)),none⟩])
 (.seq (.region [⟨some 5,(.move (.con .nilSlice)),none⟩])
 (.seq (.seq (.region [⟨some 6,(.move (.con (.int .i64 0))),none⟩])
 (.join [false,false,false,false,true,true] (.block 0 (.loop [true,true,false,false,false,true,true] [false,false,false,false,true,true]
 (.seq (.seq (.region [⟨some 7,(.move (.tmp 6)),none⟩,
 ⟨some 8,(.move (.tmp 0)),none⟩,
 ⟨some 9,(.nilCheck (.tmp 8)),none⟩,
 ⟨some 10,(.fieldAddr 0 (.tmp 9)),none⟩,
 ⟨some 11,(.fieldAddr 1 (.tmp 10)),none⟩,
 ⟨some 12,(.load1 (.tmp 11)),none⟩,
 ⟨some 13,(.lenS (.tmp 12)),none⟩,
 ⟨some 14,(.bin .lss .prim (.tmp 7) (.tmp 13)),none⟩])
 (.cond (.tmp 14)
 .skip
 (.exit 0)))
 (.seq (.block 1 (.seq (.region [⟨some 17,(.move (.tmp 0)),none⟩,
 ⟨some 18,(.nilCheck (.tmp 17)),none⟩,
 ⟨some 19,(.fieldAddr 0 (.tmp 18)),none⟩,
 ⟨some 20,(.fieldAddr 1 (.tmp 19)),none⟩,
 ⟨some 21,(.load1 (.tmp 20)),none⟩,
 ⟨some 22,(.move (.tmp 6)),none⟩,
 ⟨some 23,(.indexAddrS 4 (.tmp 21) (.tmp 22)),none⟩,
 ⟨some 24,(.fieldAddr 0 (.tmp 23)),none⟩,
 ⟨some 25,(.load1 (.tmp 24)),none⟩,
 ⟨some 26,(.move (.tmp 1)),none⟩,
 ⟨some 27,(.bin .eql .prim (.tmp 25) (.tmp 26)),none⟩])
 (.cond (.tmp 27)
 (.region [⟨some 28,(.move (.tmp 5)),none⟩,
 ⟨some 29,(.move (.tmp 6)),none⟩,
 ⟨some 30,(.buildSlice [(.int .i64 0)] 1 [(0,1,(.tmp 29))]),none⟩,
 ⟨some 31,(.append 1 8 (.tmp 28) (.tmp 30)),none⟩,
 ⟨some 5,(.move (.tmp 31)),none⟩])
 .skip)))
 (.region [⟨some 15,(.move (.tmp 6)),none⟩,
 ⟨some 16,(.bin .add .prim (.tmp 15) (.con (.int .i64 1))),none⟩,
 ⟨some 6,(.move (.tmp 16)),none⟩])))))))
 (.seq (.region [⟨some 32,(.move (.tmp 5)),none⟩,
 ⟨some 4,(.move (.tmp 32)),none⟩])
 .ret))))⟩
theorem F44_ok : cfn tab F44.body Tryz.f44 = some F44 := by kernel_rfl

/- (*milestone/milestoneref2.Adj).In -/
def F45 : AFn := ⟨33,[.tmp 4],
 (.seq (.region [⟨some 4,(.move (.con .nilSlice)),none⟩])
 (.seq (.region [⟨some 5,(.move (.con .nilSlice)),none⟩])
 (.seq (.seq (.region [⟨some 6,(.move (.con (.int .i64 0))),none⟩])
 (.join [false,false,false,false,true,true] (.block 0 (.loop [true,true,false,false,false,true,true] [false,false,false,false,true,true]
 (.seq (.seq (.region [⟨some 7,(.move (.tmp 6)),none⟩,
 ⟨some 8,(.move (.tmp 0)),none⟩,
 ⟨some 9,(.nilCheck (.tmp 8)),none⟩,
 ⟨some 10,(.fieldAddr 0 (.tmp 9)),none⟩,
 ⟨some 11,(.fieldAddr 1 (.tmp 10)),none⟩,
 ⟨some 12,(.load1 (.tmp 11)),none⟩,
 ⟨some 13,(.lenS (.tmp 12)),none⟩,
 ⟨some 14,(.bin .lss .prim (.tmp 7) (.tmp 13)),none⟩])
 (.cond (.tmp 14)
 .skip
 (.exit 0)))
 (.seq (.block 1 (.seq (.region [⟨some 17,(.move (.tmp 0)),none⟩,
 ⟨some 18,(.nilCheck (.tmp 17)),none⟩,
 ⟨some 19,(.fieldAddr 0 (.tmp 18)),none⟩,
 ⟨some 20,(.fieldAddr 1 (.tmp 19)),none⟩,
 ⟨some 21,(.load1 (.tmp 20)),none⟩,
 ⟨some 22,(.move (.tmp 6)),none⟩,
 ⟨some 23,(.indexAddrS 4 (.tmp 21) (.tmp 22)),none⟩,
 ⟨some 24,(.fieldAddr 1 (.tmp 23)),none⟩,
 ⟨some 25,(.load1 (.tmp 24)),none⟩,
 ⟨some 26,(.move (.tmp 1)),none⟩,
 ⟨some 27,(.bin .eql .prim (.tmp 25) (.tmp 26)),none⟩])
 (.cond (.tmp 27)
 (.region [⟨some 28,(.move (.tmp 5)),none⟩,
 ⟨some 29,(.move (.tmp 6)),none⟩,
 ⟨some 30,(.buildSlice [(.int .i64 0)] 1 [(0,1,(.tmp 29))]),none⟩,
 ⟨some 31,(.append 1 8 (.tmp 28) (.tmp 30)),none⟩,
 ⟨some 5,(.move (.tmp 31)),none⟩])
 .skip)))
 (.region [⟨some 15,(.move (.tmp 6)),none⟩,
 ⟨some 16,(.bin .add .prim (.tmp 15) (.con (.int .i64 1))),none⟩,
 ⟨some 6,(.move (.tmp 16)),none⟩])))))))
 (.seq (.region [⟨some 32,(.move (.tmp 5)),none⟩,
 ⟨some 4,(.move (.tmp 32)),none⟩])
 .ret))))⟩
theorem F45_ok : cfn tab F45.body Tryz.f45 = some F45 := by kernel_rfl

/- (milestone/net.checker).edge -/
def F46 : AFn := ⟨38,[.tmp 4],
 (.seq (.region [⟨some 2,(.box 1 (.tmp 0)),none⟩,
 ⟨some 3,(.box 4 (.tmp 1)),none⟩,
 ⟨some 4,(.move (.con (.bool false))),none⟩])
 (.seq (.region [⟨some 6,(.loadN 1 (.tmp 2)),none⟩,
 ⟨some 7,(.mkFunc (.func 69) [(.tmp 6)] []),none⟩,
 ⟨some 5,(.move (.tmp 7)),none⟩])
 (.seq (.region [⟨some 8,(.move (.tmp 5)),none⟩,
 ⟨some 9,(.fieldAddr 0 (.tmp 3)),none⟩,
 ⟨some 10,(.load1 (.tmp 9)),none⟩,
 ⟨some 11,(.callv (.tmp 8) [(.tmp 10)]),none⟩,
 ⟨some 12,(.move (.tmp 11)),none⟩,
 ⟨some 13,(.move (.tmp 5)),some (12,true)⟩,
 ⟨some 14,(.fieldAddr 1 (.tmp 3)),some (12,true)⟩,
 ⟨some 15,(.load1 (.tmp 14)),some (12,true)⟩,
 ⟨some 16,(.callv (.tmp 13) [(.tmp 15)]),some (12,true)⟩,
 ⟨some 17,(.pick (.tmp 12) (.tmp 16) (.con (.bool false))),none⟩,
 ⟨some 18,(.move (.tmp 17)),none⟩,
 ⟨some 19,(.fieldAddr 2 (.tmp 3)),some (18,true)⟩,
 ⟨some 20,(.load1 (.tmp 19)),some (18,true)⟩,
 ⟨some 21,(.bin .geq .prim (.tmp 20) (.con (.int .i64 0))),some (18,true)⟩,
 ⟨some 22,(.pick (.tmp 18) (.tmp 21) (.con (.bool false))),none⟩,
 ⟨some 23,(.move (.tmp 22)),none⟩,
 ⟨some 24,(.fieldAddr 2 (.tmp 3)),some (23,true)⟩,
 ⟨some 25,(.load1 (.tmp 24)),some (23,true)⟩,
 ⟨some 26,(.bin .lss .prim (.tmp 25) (.con (.int .i64 5))),some (23,true)⟩,
 ⟨some 27,(.pick (.tmp 23) (.tmp 26) (.con (.bool false))),none⟩,
 ⟨some 28,(.move (.tmp 27)),none⟩,
 ⟨some 29,(.fieldAddr 3 (.tmp 3)),some (28,true)⟩,
 ⟨some 30,(.load1 (.tmp 29)),some (28,true)⟩,
 ⟨some 31,(.bin .geq .prim (.tmp 30) (.con (.int .i64 0))),some (28,true)⟩,
 ⟨some 32,(.pick (.tmp 28) (.tmp 31) (.con (.bool false))),none⟩,
 ⟨some 33,(.move (.tmp 32)),none⟩,
 ⟨some 34,(.fieldAddr 3 (.tmp 3)),some (33,true)⟩,
 ⟨some 35,(.load1 (.tmp 34)),some (33,true)⟩,
 ⟨some 36,(.bin .leq .prim (.tmp 35) (.con (.int .i64 2147483647))),some (33,true)⟩,
 ⟨some 37,(.pick (.tmp 33) (.tmp 36) (.con (.bool false))),none⟩,
 ⟨some 4,(.move (.tmp 37)),none⟩])
 .ret)))⟩
theorem F46_ok : cfn tab F46.body Tryz.f46 = some F46 := by kernel_rfl

/- (milestone/hier.checker).edge -/
def F47 : AFn := ⟨46,[.tmp 4],
 (.seq (.region [⟨some 2,(.box 6 (.tmp 0)),none⟩,
 ⟨some 3,(.box 7 (.tmp 1)),none⟩,
 ⟨some 4,(.move (.con (.bool false))),none⟩])
 (.seq (.seq (.region [⟨some 5,(.fieldAddr 4 (.tmp 3)),none⟩,
 ⟨some 6,(.load1 (.tmp 5)),none⟩,
 ⟨some 7,(.bin .lss .prim (.tmp 6) (.con (.int .i64 0))),none⟩,
 ⟨some 8,(.move (.tmp 7)),none⟩,
 ⟨some 9,(.fieldAddr 4 (.tmp 3)),some (8,false)⟩,
 ⟨some 10,(.load1 (.tmp 9)),some (8,false)⟩,
 ⟨some 11,(.fieldAddr 0 (.tmp 2)),some (8,false)⟩,
 ⟨some 12,(.fieldAddr 0 (.tmp 11)),some (8,false)⟩,
 ⟨some 13,(.fieldAddr 1 (.tmp 12)),some (8,false)⟩,
 ⟨some 14,(.load1 (.tmp 13)),some (8,false)⟩,
 ⟨some 15,(.lenS (.tmp 14)),some (8,false)⟩,
 ⟨some 16,(.bin .geq .prim (.tmp 10) (.tmp 15)),some (8,false)⟩,
 ⟨some 17,(.pick (.tmp 8) (.con (.bool true)) (.tmp 16)),none⟩,
 ⟨some 18,(.move (.tmp 17)),none⟩,
 ⟨some 19,(.fieldAddr 5 (.tmp 3)),some (18,false)⟩,
 ⟨some 20,(.load1 (.tmp 19)),some (18,false)⟩,
 ⟨some 21,(.bin .neq .prim (.tmp 20) (.con (.int .i64 0))),some (18,false)⟩,
 ⟨some 22,(.pick (.tmp 18) (.con (.bool true)) (.tmp 21)),none⟩,
 ⟨some 23,(.move (.tmp 22)),none⟩,
 ⟨some 24,(.fieldAddr 6 (.tmp 3)),some (23,false)⟩,
 ⟨some 25,(.load1 (.tmp 24)),some (23,false)⟩,
 ⟨some 26,(.bin .neq .prim (.tmp 25) (.con (.int .i64 0))),some (23,false)⟩,
 ⟨some 27,(.pick (.tmp 23) (.con (.bool true)) (.tmp 26)),none⟩])
 (.cond (.tmp 27)
 (.seq (.region [⟨some 4,(.move (.con (.bool false))),none⟩])
 .ret)
 .skip))
 (.seq (.dregion [[],[0],[0,1],[1,0,2],[],[4],[4,5,2,0,1,3],[3,1,0,2,5,4,6],[],[8],[],[10],[],[12],[],[14],[14,15,12,13,10,11,8,9],[9,8,11,10,13,12,15,14,16,6,4,5,2,0,1,3,7],[7,3,1,0,2,5,4,6,16,14,15,12,13,10,11,8,9,17]] [.op 0 ⟨some 28,(.fieldAddr 0 (.tmp 2)),none⟩,
 .op 1 ⟨some 29,(.fieldAddr 0 (.tmp 28)),none⟩,
 .op 2 ⟨some 30,(.fieldAddr 1 (.tmp 29)),none⟩,
 .op 3 ⟨some 31,(.load1 (.tmp 30)),none⟩,
 .op 4 ⟨some 32,(.fieldAddr 4 (.tmp 3)),none⟩,
 .op 5 ⟨some 33,(.load1 (.tmp 32)),none⟩,
 .op 6 ⟨some 34,(.indexAddrS 4 (.tmp 31) (.tmp 33)),none⟩,
 .op 7 ⟨some 35,(.loadN 4 (.tmp 34)),none⟩,
 .op 8 ⟨some 36,(.fieldAddr 0 (.tmp 3)),none⟩,
 .op 9 ⟨some 37,(.load1 (.tmp 36)),none⟩,
 .op 10 ⟨some 38,(.fieldAddr 1 (.tmp 3)),none⟩,
 .op 11 ⟨some 39,(.load1 (.tmp 38)),none⟩,
 .op 12 ⟨some 40,(.fieldAddr 2 (.tmp 3)),none⟩,
 .op 13 ⟨some 41,(.load1 (.tmp 40)),none⟩,
 .op 14 ⟨some 42,(.fieldAddr 3 (.tmp 3)),none⟩,
 .op 15 ⟨some 43,(.load1 (.tmp 42)),none⟩,
 .op 16 ⟨some 44,(.build [(.int .i64 0),(.int .i64 0),(.int .i64 0),(.int .i64 0)] [(0,1,(.tmp 37)),(1,1,(.tmp 39)),(2,1,(.tmp 41)),(3,1,(.tmp 43))]),none⟩,
 .op 17 ⟨some 45,(.bin .eql (.flat [.int,.int,.int,.int]) (.tmp 35) (.tmp 44)),none⟩,
 .op 18 ⟨some 4,(.move (.tmp 45)),none⟩])
 .ret)))⟩
theorem F47_ok : cfn tab F47.body Tryz.f47 = some F47 := by kernel_rfl

/- (milestone/hier.checker).two -/
def F48 : AFn := ⟨96,[.tmp 4],
 (.seq (.region [⟨some 2,(.box 6 (.tmp 0)),none⟩,
 ⟨some 4,(.move (.con (.bool false))),none⟩])
 (.seq (.region [⟨some 8,(.fieldAddr 0 (.tmp 2)),none⟩,
 ⟨some 9,(.fieldAddr 3 (.tmp 8)),none⟩,
 ⟨some 10,(.load1 (.tmp 9)),none⟩,
 ⟨some 11,(.move (.tmp 1)),none⟩,
 ⟨some 12,(.indexAddrS 7 (.tmp 10) (.tmp 11)),none⟩,
 ⟨some 13,(.loadN 7 (.tmp 12)),none⟩,
 ⟨some 5,(.alloc [(.int .i64 0),(.int .i64 0),(.int .i64 0),(.int .i64 0),(.int .i64 0),(.int .i64 0),(.int .i64 0)]),none⟩,
 ⟨none,(.store 7 (.tmp 5) (.tmp 13)),none⟩])
 (.seq (.seq (.region [⟨some 14,(.fieldAddr 4 (.tmp 5)),none⟩,
 ⟨some 15,(.load1 (.tmp 14)),none⟩,
 ⟨some 16,(.bin .neq .prim (.tmp 15) (.con (.int .i64 (-1)))),none⟩,
 ⟨some 17,(.move (.tmp 16)),none⟩,
 ⟨some 18,(.fieldAddr 5 (.tmp 5)),some (17,false)⟩,
 ⟨some 19,(.load1 (.tmp 18)),some (17,false)⟩,
 ⟨some 20,(.bin .lss .prim (.tmp 19) (.con (.int .i64 0))),some (17,false)⟩,
 ⟨some 21,(.pick (.tmp 17) (.con (.bool true)) (.tmp 20)),none⟩,
 ⟨some 22,(.move (.tmp 21)),none⟩,
 ⟨some 23,(.fieldAddr 5 (.tmp 5)),some (22,false)⟩,
 ⟨some 24,(.load1 (.tmp 23)),some (22,false)⟩,
 ⟨some 25,(.move (.tmp 1)),some (22,false)⟩,
 ⟨some 26,(.bin .geq .prim (.tmp 24) (.tmp 25)),some (22,false)⟩,
 ⟨some 27,(.pick (.tmp 22) (.con (.bool true)) (.tmp 26)),none⟩,
 ⟨some 28,(.move (.tmp 27)),none⟩,
 ⟨some 29,(.fieldAddr 6 (.tmp 5)),some (28,false)⟩,
 ⟨some 30,(.load1 (.tmp 29)),some (28,false)⟩,
 ⟨some 31,(.bin .lss .prim (.tmp 30) (.con (.int .i64 0))),some (28,false)⟩,
 ⟨some 32,(.pick (.tmp 28) (.con (.bool true)) (.tmp 31)),none⟩,
 ⟨some 33,(.move (.tmp 32)),none⟩,
 ⟨some 34,(.fieldAddr 6 (.tmp 5)),some (33,false)⟩,
 ⟨some 35,(.load1 (.tmp 34)),some (33,false)⟩,
 ⟨some 36,(.move (.tmp 1)),some (33,false)⟩,
 ⟨some 37,(.bin .geq .prim (.tmp 35) (.tmp 36)),some (33,false)⟩,
 ⟨some 38,(.pick (.tmp 33) (.con (.bool true)) (.tmp 37)),none⟩])
 (.cond (.tmp 38)
 (.seq (.region [⟨some 4,(.move (.con (.bool false))),none⟩])
 .ret)
 .skip))
 (.seq (.dregion [[],[0],[0,1],[],[3],[3,4,1,0,2],[2,0,1,4,3,5],[],[7],[7,8],[],[10],[10,11,8,7,9],[9,7,8,11,10,12],[],[],[15,5,3,4,1,0,2,6,14],[14,6,2,0,1,4,3,5,16,12,10,11,8,7,9,13,15]] [.op 0 ⟨some 39,(.fieldAddr 0 (.tmp 2)),none⟩,
 .op 1 ⟨some 40,(.fieldAddr 3 (.tmp 39)),none⟩,
 .op 2 ⟨some 41,(.load1 (.tmp 40)),none⟩,
 .op 3 ⟨some 42,(.fieldAddr 5 (.tmp 5)),none⟩,
 .op 4 ⟨some 43,(.load1 (.tmp 42)),none⟩,
 .op 5 ⟨some 44,(.indexAddrS 7 (.tmp 41) (.tmp 43)),none⟩,
 .op 6 ⟨some 45,(.loadN 7 (.tmp 44)),none⟩,
 .op 7 ⟨some 46,(.fieldAddr 0 (.tmp 2)),none⟩,
 .op 8 ⟨some 47,(.fieldAddr 3 (.tmp 46)),none⟩,
 .op 9 ⟨some 48,(.load1 (.tmp 47)),none⟩,
 .op 10 ⟨some 49,(.fieldAddr 6 (.tmp 5)),none⟩,
 .op 11 ⟨some 50,(.load1 (.tmp 49)),none⟩,
 .op 12 ⟨some 51,(.indexAddrS 7 (.tmp 48) (.tmp 50)),none⟩,
 .op 13 ⟨some 52,(.loadN 7 (.tmp 51)),none⟩,
 .op 14 ⟨some 6,(.alloc [(.int .i64 0),(.int .i64 0),(.int .i64 0),(.int .i64 0),(.int .i64 0),(.int .i64 0),(.int .i64 0)]),none⟩,
 .op 15 ⟨some 7,(.alloc [(.int .i64 0),(.int .i64 0),(.int .i64 0),(.int .i64 0),(.int .i64 0),(.int .i64 0),(.int .i64 0)]),none⟩,
 .op 16 ⟨none,(.store 7 (.tmp 6) (.tmp 45)),none⟩,
 .re 9 ⟨some 48,(.load1 (.tmp 47)),none⟩,
 .re 11 ⟨some 50,(.load1 (.tmp 49)),none⟩,
 .re 13 ⟨some 52,(.loadN 7 (.tmp 51)),none⟩,
 .op 17 ⟨none,(.store 7 (.tmp 7) (.tmp 52)),none⟩])
 (.seq (.region [⟨some 53,(.fieldAddr 2 (.tmp 6)),none⟩,
 ⟨some 54,(.load1 (.tmp 53)),none⟩,
 ⟨some 55,(.fieldAddr 2 (.tmp 5)),none⟩,
 ⟨some 56,(.load1 (.tmp 55)),none⟩,
 ⟨some 57,(.bin .eql .prim (.tmp 54) (.tmp 56)),none⟩,
 ⟨some 58,(.move (.tmp 57)),none⟩,
 ⟨some 59,(.fieldAddr 2 (.tmp 7)),some (58,true)⟩,
 ⟨some 60,(.load1 (.tmp 59)),some (58,true)⟩,
 ⟨some 61,(.fieldAddr 2 (.tmp 5)),some (58,true)⟩,
 ⟨some 62,(.load1 (.tmp 61)),some (58,true)⟩,
 ⟨some 63,(.bin .eql .prim (.tmp 60) (.tmp 62)),some (58,true)⟩,
 ⟨some 64,(.pick (.tmp 58) (.tmp 63) (.con (.bool false))),none⟩,
 ⟨some 65,(.move (.tmp 64)),none⟩,
 ⟨some 66,(.fieldAddr 0 (.tmp 6)),some (65,true)⟩,
 ⟨some 67,(.load1 (.tmp 66)),some (65,true)⟩,
 ⟨some 68,(.fieldAddr 0 (.tmp 5)),some (65,true)⟩,
 ⟨some 69,(.load1 (.tmp 68)),some (65,true)⟩,
 ⟨some 70,(.bin .eql .prim (.tmp 67) (.tmp 69)),some (65,true)⟩,
 ⟨some 71,(.pick (.tmp 65) (.tmp 70) (.con (.bool false))),none⟩,
 ⟨some 72,(.move (.tmp 71)),none⟩,
 ⟨some 73,(.fieldAddr 1 (.tmp 6)),some (72,true)⟩,
 ⟨some 74,(.load1 (.tmp 73)),some (72,true)⟩,
 ⟨some 75,(.fieldAddr 0 (.tmp 7)),some (72,true)⟩,
 ⟨some 76,(.load1 (.tmp 75)),some (72,true)⟩,
 ⟨some 77,(.bin .eql .prim (.tmp 74) (.tmp 76)),some (72,true)⟩,
 ⟨some 78,(.pick (.tmp 72) (.tmp 77) (.con (.bool false))),none⟩,
 ⟨some 79,(.move (.tmp 78)),none⟩,
 ⟨some 80,(.fieldAddr 1 (.tmp 7)),some (79,true)⟩,
 ⟨some 81,(.load1 (.tmp 80)),some (79,true)⟩,
 ⟨some 82,(.fieldAddr 1 (.tmp 5)),some (79,true)⟩,
 ⟨some 83,(.load1 (.tmp 82)),some (79,true)⟩,
 ⟨some 84,(.bin .eql .prim (.tmp 81) (.tmp 83)),some (79,true)⟩,
 ⟨some 85,(.pick (.tmp 79) (.tmp 84) (.con (.bool false))),none⟩,
 ⟨some 86,(.move (.tmp 85)),none⟩,
 ⟨some 87,(.fieldAddr 3 (.tmp 5)),some (86,true)⟩,
 ⟨some 88,(.load1 (.tmp 87)),some (86,true)⟩,
 ⟨some 89,(.fieldAddr 3 (.tmp 6)),some (86,true)⟩,
 ⟨some 90,(.load1 (.tmp 89)),some (86,true)⟩,
 ⟨some 91,(.fieldAddr 3 (.tmp 7)),some (86,true)⟩,
 ⟨some 92,(.load1 (.tmp 91)),some (86,true)⟩,
 ⟨some 93,(.bin .add .prim (.tmp 90) (.tmp 92)),some (86,true)⟩,
 ⟨some 94,(.bin .eql .prim (.tmp 88) (.tmp 93)),some (86,true)⟩,
 ⟨some 95,(.pick (.tmp 86) (.tmp 94) (.con (.bool false))),none⟩,
 ⟨some 4,(.move (.tmp 95)),none⟩])
 .ret)))))⟩
theorem F48_ok : cfn tab F48.body Tryz.f48 = some F48 := by kernel_rfl

/- (milestone/hier.checker).once -/
def F49 : AFn := ⟨33,[.tmp 4],
 (.seq (.region [⟨some 2,(.box 6 (.tmp 0)),none⟩,
 ⟨some 4,(.move (.con (.bool false))),none⟩])
 (.seq (.region [⟨some 8,.mkMap,none⟩,
 ⟨some 5,(.move (.tmp 8)),none⟩])
 (.seq (.seq (.region [⟨some 9,(.move (.tmp 1)),none⟩,
 ⟨some 10,(.lenS (.tmp 9)),none⟩,
 ⟨some 11,(.move (.con (.int .i64 0))),none⟩])
 (.join [false,false,false,false,true] (.block 0 (.loop [false,false,true,false,false,true,false,false,false,true,true,true] [false,false,false,false,true]
 (.seq (.region [⟨some 12,(.bin .lss .prim (.tmp 11) (.tmp 10)),none⟩])
 (.seq (.cond (.tmp 12)
 .skip
 (.exit 0))
 (.seq (.block 1 (.seq (.region [⟨some 13,(.indexAddrS 1 (.tmp 9) (.tmp 11)),none⟩,
 ⟨some 14,(.load1 (.tmp 13)),none⟩,
 ⟨some 7,(.move (.tmp 14)),none⟩])
 (.seq (.seq (.region [⟨some 15,(.move (.tmp 7)),none⟩,
 ⟨some 16,(.bin .lss .prim (.tmp 15) (.con (.int .i64 0))),none⟩,
 ⟨some 17,(.move (.tmp 16)),none⟩,
 ⟨some 18,(.move (.tmp 7)),some (17,false)⟩,
 ⟨some 19,(.fieldAddr 0 (.tmp 2)),some (17,false)⟩,
 ⟨some 20,(.fieldAddr 3 (.tmp 19)),some (17,false)⟩,
 ⟨some 21,(.load1 (.tmp 20)),some (17,false)⟩,
 ⟨some 22,(.lenS (.tmp 21)),some (17,false)⟩,
 ⟨some 23,(.bin .geq .prim (.tmp 18) (.tmp 22)),some (17,false)⟩,
 ⟨some 24,(.pick (.tmp 17) (.con (.bool true)) (.tmp 23)),none⟩,
 ⟨some 25,(.move (.tmp 24)),none⟩,
 ⟨some 26,(.move (.tmp 5)),some (25,false)⟩,
 ⟨some 27,(.move (.tmp 7)),some (25,false)⟩,
 ⟨some 28,(.lookup (.one .int) (.bool false) (.tmp 26) (.tmp 27) false),some (25,false)⟩,
 ⟨some 29,(.pick (.tmp 25) (.con (.bool true)) (.tmp 28)),none⟩])
 (.cond (.tmp 29)
 (.seq (.region [⟨some 4,(.move (.con (.bool false))),none⟩])
 .ret)
 .skip))
 (.region [⟨some 30,(.move (.tmp 5)),none⟩,
 ⟨some 31,(.move (.tmp 7)),none⟩,
 ⟨none,(.mapUpdate (.one .int) (.tmp 30) (.tmp 31) (.con (.bool true))),none⟩]))))
 (.region [⟨some 32,(.bin .add .prim (.tmp 11) (.con (.int .i64 1))),none⟩,
 ⟨some 11,(.move (.tmp 32)),none⟩]))))))))
 (.seq (.region [⟨some 4,(.move (.con (.bool true))),none⟩])
 .ret))))⟩
theorem F49_ok : cfn tab F49.body Tryz.f49 = some F49 := by kernel_rfl

/- (milestone/hier.checker).above -/
def F50 : AFn := ⟨34,[.tmp 6],
 (.seq (.region [⟨some 3,(.box 6 (.tmp 0)),none⟩,
 ⟨some 6,(.move (.con (.bool false))),none⟩])
 (.seq (.region [⟨some 8,(.fieldAddr 0 (.tmp 3)),none⟩,
 ⟨some 9,(.fieldAddr 2 (.tmp 8)),none⟩,
 ⟨some 10,(.load1 (.tmp 9)),none⟩,
 ⟨some 7,(.move (.tmp 10)),none⟩])
 (.seq (.dregion [[],[],[1,0],[0,1,2],[2,1,0,3],[3,0,1,2,4],[4,2,1,0,3,5],[4,2,1,0,3,5],[7,5,3,0,1,2,4,6],[6,4,2,1,0,3,5,7,8],[8,7,5,3,0,1,2,4,6,9],[9,6,4,2,1,0,3,5,7,8,10],[10,8,7,5,3,0,1,2,4,6,9,11],[10,8,7,5,3,0,1,2,4,6,9,11],[13,11,9,6,4,2,1,0,3,5,7,8,10,12],[12,10,8,7,5,3,0,1,2,4,6,9,11,13,14],[10,8,7,5,3,0,1,2,4,6,9,11],[10,8,7,5,3,0,1,2,4,6,9,11],[17,11,9,6,4,2,1,0,3,5,7,8,10,16],[16,10,8,7,5,3,0,1,2,4,6,9,11,17,18],[18,17,16,19,14,13,11,9,6,4,2,1,0,3,5,7,8,10,12,15],[15,12,13,14,19,16,17,18,20,10,8,7,5,3,0,1,2,4,6,9,11],[11,9,6,7,8,10,20,18,17,16,19,14,13,12,15,21,4,2,1,0,3,5],[5,3,0,1,2,4,21,15,12,13,14,19,16,17,18,20,10,8,7,6,9,11,22]] [.op 0 ⟨some 11,(.move (.tmp 7)),none⟩,
 .op 1 ⟨some 12,(.move (.tmp 1)),none⟩,
 .op 2 ⟨some 13,(.indexAddrS 1 (.tmp 11) (.tmp 12)),none⟩,
 .op 3 ⟨some 14,(.load1 (.tmp 13)),none⟩,
 .op 4 ⟨some 15,(.bin .lss .prim (.tmp 14) (.con (.int .i64 0))),none⟩,
 .op 5 ⟨some 16,(.move (.tmp 15)),none⟩,
 .op 6 ⟨some 17,(.move (.tmp 7)),some (16,false)⟩,
 .op 7 ⟨some 18,(.move (.tmp 2)),some (16,false)⟩,
 .op 8 ⟨some 19,(.indexAddrS 1 (.tmp 17) (.tmp 18)),some (16,false)⟩,
 .op 9 ⟨some 20,(.load1 (.tmp 19)),some (16,false)⟩,
 .op 10 ⟨some 21,(.bin .geq .prim (.tmp 20) (.con (.int .i64 0))),some (16,false)⟩,
 .op 11 ⟨some 22,(.move (.tmp 21)),some (16,false)⟩,
 .op 12 ⟨some 23,(.move (.tmp 7)),some (22,true)⟩,
 .op 13 ⟨some 24,(.move (.tmp 1)),some (22,true)⟩,
 .op 14 ⟨some 25,(.indexAddrS 1 (.tmp 23) (.tmp 24)),some (22,true)⟩,
 .op 15 ⟨some 26,(.load1 (.tmp 25)),some (22,true)⟩,
 .op 16 ⟨some 27,(.move (.tmp 7)),some (22,true)⟩,
 .op 17 ⟨some 28,(.move (.tmp 2)),some (22,true)⟩,
 .op 18 ⟨some 29,(.indexAddrS 1 (.tmp 27) (.tmp 28)),some (22,true)⟩,
 .op 19 ⟨some 30,(.load1 (.tmp 29)),some (22,true)⟩,
 .op 20 ⟨some 31,(.bin .gtr .prim (.tmp 26) (.tmp 30)),some (22,true)⟩,
 .op 21 ⟨some 32,(.pick (.tmp 22) (.tmp 31) (.con (.bool false))),some (16,false)⟩,
 .op 22 ⟨some 33,(.pick (.tmp 16) (.con (.bool true)) (.tmp 32)),none⟩,
 .op 23 ⟨some 6,(.move (.tmp 33)),none⟩])
 .ret)))⟩
theorem F50_ok : cfn tab F50.body Tryz.f50 = some F50 := by kernel_rfl

/- milestone/milestoneref1.right -/
def F51 : AFn := ⟨45,[.tmp 4],
 (.seq (.region [⟨some 2,(.box 4 (.tmp 0)),none⟩,
 ⟨some 4,(.move (.con (.bool false))),none⟩])
 (.seq (.region [⟨some 5,(.fieldAddr 0 (.tmp 2)),none⟩,
 ⟨some 6,(.load1 (.tmp 5)),none⟩,
 ⟨some 7,(.bin .geq .prim (.tmp 6) (.con (.int .i64 0))),none⟩,
 ⟨some 8,(.move (.tmp 7)),none⟩,
 ⟨some 9,(.fieldAddr 0 (.tmp 2)),some (8,true)⟩,
 ⟨some 10,(.load1 (.tmp 9)),some (8,true)⟩,
 ⟨some 11,(.move (.tmp 1)),some (8,true)⟩,
 ⟨some 12,(.bin .lss .prim (.tmp 10) (.tmp 11)),some (8,true)⟩,
 ⟨some 13,(.pick (.tmp 8) (.tmp 12) (.con (.bool false))),none⟩,
 ⟨some 14,(.move (.tmp 13)),none⟩,
 ⟨some 15,(.fieldAddr 1 (.tmp 2)),some (14,true)⟩,
 ⟨some 16,(.load1 (.tmp 15)),some (14,true)⟩,
 ⟨some 17,(.bin .geq .prim (.tmp 16) (.con (.int .i64 0))),some (14,true)⟩,
 ⟨some 18,(.pick (.tmp 14) (.tmp 17) (.con (.bool false))),none⟩,
 ⟨some 19,(.move (.tmp 18)),none⟩,
 ⟨some 20,(.fieldAddr 1 (.tmp 2)),some (19,true)⟩,
 ⟨some 21,(.load1 (.tmp 20)),some (19,true)⟩,
 ⟨some 22,(.move (.tmp 1)),some (19,true)⟩,
 ⟨some 23,(.bin .lss .prim (.tmp 21) (.tmp 22)),some (19,true)⟩,
 ⟨some 24,(.pick (.tmp 19) (.tmp 23) (.con (.bool false))),none⟩,
 ⟨some 25,(.move (.tmp 24)),none⟩,
 ⟨some 26,(.fieldAddr 2 (.tmp 2)),some (25,true)⟩,
 ⟨some 27,(.load1 (.tmp 26)),some (25,true)⟩,
 ⟨some 28,(.bin .geq .prim (.tmp 27) (.con (.int .i64 0))),some (25,true)⟩,
 ⟨some 29,(.pick (.tmp 25) (.tmp 28) (.con (.bool false))),none⟩,
 ⟨some 30,(.move (.tmp 29)),none⟩,
 ⟨some 31,(.fieldAddr 2 (.tmp 2)),some (30,true)⟩,
 ⟨some 32,(.load1 (.tmp 31)),some (30,true)⟩,
 ⟨some 33,(.bin .lss .prim (.tmp 32) (.con (.int .i64 5))),some (30,true)⟩,
 ⟨some 34,(.pick (.tmp 30) (.tmp 33) (.con (.bool false))),none⟩,
 ⟨some 35,(.move (.tmp 34)),none⟩,
 ⟨some 36,(.fieldAddr 3 (.tmp 2)),some (35,true)⟩,
 ⟨some 37,(.load1 (.tmp 36)),some (35,true)⟩,
 ⟨some 38,(.bin .geq .prim (.tmp 37) (.con (.int .i64 0))),some (35,true)⟩,
 ⟨some 39,(.pick (.tmp 35) (.tmp 38) (.con (.bool false))),none⟩,
 ⟨some 40,(.move (.tmp 39)),none⟩,
 ⟨some 41,(.fieldAddr 3 (.tmp 2)),some (40,true)⟩,
 ⟨some 42,(.load1 (.tmp 41)),some (40,true)⟩,
 ⟨some 43,(.bin .leq .prim (.tmp 42) (.con (.int .i64 2147483647))),some (40,true)⟩,
 ⟨some 44,(.pick (.tmp 40) (.tmp 43) (.con (.bool false))),none⟩,
 ⟨some 4,(.move (.tmp 44)),none⟩])
 .ret))⟩
theorem F51_ok : cfn tab F51.body Tryz.f51 = some F51 := by kernel_rfl

/- milestone/milestoneref11.edge -/
def F52 : AFn := ⟨61,[.tmp 4],
 (.seq (.region [⟨some 2,(.box 6 (.tmp 0)),none⟩,
 ⟨some 3,(.box 7 (.tmp 1)),none⟩,
 ⟨some 4,(.move (.con (.bool false))),none⟩])
 (.seq (.seq (.region [⟨some 6,(.fieldAddr 4 (.tmp 3)),none⟩,
 ⟨some 7,(.load1 (.tmp 6)),none⟩,
 ⟨some 8,(.bin .lss .prim (.tmp 7) (.con (.int .i64 0))),none⟩,
 ⟨some 9,(.move (.tmp 8)),none⟩,
 ⟨some 10,(.fieldAddr 4 (.tmp 3)),some (9,false)⟩,
 ⟨some 11,(.load1 (.tmp 10)),some (9,false)⟩,
 ⟨some 12,(.fieldAddr 0 (.tmp 2)),some (9,false)⟩,
 ⟨some 13,(.fieldAddr 1 (.tmp 12)),some (9,false)⟩,
 ⟨some 14,(.load1 (.tmp 13)),some (9,false)⟩,
 ⟨some 15,(.lenS (.tmp 14)),some (9,false)⟩,
 ⟨some 16,(.bin .geq .prim (.tmp 11) (.tmp 15)),some (9,false)⟩,
 ⟨some 17,(.pick (.tmp 9) (.con (.bool true)) (.tmp 16)),none⟩,
 ⟨some 18,(.move (.tmp 17)),none⟩,
 ⟨some 19,(.fieldAddr 5 (.tmp 3)),some (18,false)⟩,
 ⟨some 20,(.load1 (.tmp 19)),some (18,false)⟩,
 ⟨some 21,(.bin .neq .prim (.tmp 20) (.con (.int .i64 0))),some (18,false)⟩,
 ⟨some 22,(.pick (.tmp 18) (.con (.bool true)) (.tmp 21)),none⟩,
 ⟨some 23,(.move (.tmp 22)),none⟩,
 ⟨some 24,(.fieldAddr 6 (.tmp 3)),some (23,false)⟩,
 ⟨some 25,(.load1 (.tmp 24)),some (23,false)⟩,
 ⟨some 26,(.bin .neq .prim (.tmp 25) (.con (.int .i64 0))),some (23,false)⟩,
 ⟨some 27,(.pick (.tmp 23) (.con (.bool true)) (.tmp 26)),none⟩])
 (.cond (.tmp 27)
 (.seq (.region [⟨some 4,(.move (.con (.bool false))),none⟩])
 .ret)
 .skip))
 (.seq (.region [⟨some 28,(.fieldAddr 0 (.tmp 2)),none⟩,
 ⟨some 29,(.fieldAddr 1 (.tmp 28)),none⟩,
 ⟨some 30,(.load1 (.tmp 29)),none⟩,
 ⟨some 31,(.fieldAddr 4 (.tmp 3)),none⟩,
 ⟨some 32,(.load1 (.tmp 31)),none⟩,
 ⟨some 33,(.indexAddrS 4 (.tmp 30) (.tmp 32)),none⟩,
 ⟨some 34,(.loadN 4 (.tmp 33)),none⟩,
 ⟨some 5,(.alloc [(.int .i64 0),(.int .i64 0),(.int .i64 0),(.int .i64 0)]),none⟩,
 ⟨none,(.store 4 (.tmp 5) (.tmp 34)),none⟩])
 (.seq (.region [⟨some 35,(.fieldAddr 0 (.tmp 5)),none⟩,
 ⟨some 36,(.load1 (.tmp 35)),none⟩,
 ⟨some 37,(.fieldAddr 0 (.tmp 3)),none⟩,
 ⟨some 38,(.load1 (.tmp 37)),none⟩,
 ⟨some 39,(.bin .eql .prim (.tmp 36) (.tmp 38)),none⟩,
 ⟨some 40,(.move (.tmp 39)),none⟩,
 ⟨some 41,(.fieldAddr 1 (.tmp 5)),some (40,true)⟩,
 ⟨some 42,(.load1 (.tmp 41)),some (40,true)⟩,
 ⟨some 43,(.fieldAddr 1 (.tmp 3)),some (40,true)⟩,
 ⟨some 44,(.load1 (.tmp 43)),some (40,true)⟩,
 ⟨some 45,(.bin .eql .prim (.tmp 42) (.tmp 44)),some (40,true)⟩,
 ⟨some 46,(.pick (.tmp 40) (.tmp 45) (.con (.bool false))),none⟩,
 ⟨some 47,(.move (.tmp 46)),none⟩,
 ⟨some 48,(.fieldAddr 2 (.tmp 5)),some (47,true)⟩,
 ⟨some 49,(.load1 (.tmp 48)),some (47,true)⟩,
 ⟨some 50,(.fieldAddr 2 (.tmp 3)),some (47,true)⟩,
 ⟨some 51,(.load1 (.tmp 50)),some (47,true)⟩,
 ⟨some 52,(.bin .eql .prim (.tmp 49) (.tmp 51)),some (47,true)⟩,
 ⟨some 53,(.pick (.tmp 47) (.tmp 52) (.con (.bool false))),none⟩,
 ⟨some 54,(.move (.tmp 53)),none⟩,
 ⟨some 55,(.fieldAddr 3 (.tmp 5)),some (54,true)⟩,
 ⟨some 56,(.load1 (.tmp 55)),some (54,true)⟩,
 ⟨some 57,(.fieldAddr 3 (.tmp 3)),some (54,true)⟩,
 ⟨some 58,(.load1 (.tmp 57)),some (54,true)⟩,
 ⟨some 59,(.bin .eql .prim (.tmp 56) (.tmp 58)),some (54,true)⟩,
 ⟨some 60,(.pick (.tmp 54) (.tmp 59) (.con (.bool false))),none⟩,
 ⟨some 4,(.move (.tmp 60)),none⟩])
 .ret))))⟩
theorem F52_ok : cfn tab F52.body Tryz.f52 = some F52 := by kernel_rfl

/- milestone/milestoneref11.above -/
def F53 : AFn := ⟨34,[.tmp 6],
 (.seq (.region [⟨some 3,(.box 6 (.tmp 0)),none⟩,
 ⟨some 6,(.move (.con (.bool false))),none⟩])
 (.seq (.dregion [[],[0],[],[2,0,1],[1,0,2,3],[3,2,0,1,4],[4,1,0,2,3,5],[5,3,2,0,1,4,6],[6,4,1,0,2,3,5,7],[5,3,2,0,1,4,6],[9,7,5,3,2,0,1,4,6,8],[8,6,4,1,0,2,3,5,7,9,10],[10,9,7,5,3,2,0,1,4,6,8,11],[11,8,6,4,1,0,2,3,5,7,9,10,12],[12,10,9,7,5,3,2,0,1,4,6,8,11,13],[13,11,8,6,4,1,0,2,3,5,7,9,10,12,14],[12,10,9,7,5,3,2,0,1,4,6,8,11,13],[16,14,12,10,9,7,5,3,2,0,1,4,6,8,11,13,15],[15,13,11,8,6,4,1,0,2,3,5,7,9,10,12,14,16,17],[12,10,9,7,5,3,2,0,1,4,6,8,11,13],[13,11,8,6,4,1,0,2,3,5,7,9,10,12,19],[12,10,9,7,5,3,2,0,1,4,6,8,11,13],[21,19,12,10,9,7,5,3,2,0,1,4,6,8,11,13,20],[20,13,11,8,6,4,1,0,2,3,5,7,9,10,12,19,21,22],[22,21,19,20,23,17,16,14,12,10,9,7,5,3,2,0,1,4,6,8,11,13,15,18],[18,15,14,16,17,23,20,19,21,22,24,12,10,9,7,5,3,2,0,1,4,6,8,11,13],[13,11,8,7,9,10,12,24,22,21,19,20,23,17,16,14,15,18,25,5,3,2,0,1,4,6],[6,4,1,0,2,3,5,25,18,15,14,16,17,23,20,19,21,22,24,12,10,9,7,8,11,13,26]] [.op 0 ⟨some 7,(.fieldAddr 2 (.tmp 3)),none⟩,
 .op 1 ⟨some 8,(.load1 (.tmp 7)),none⟩,
 .op 2 ⟨some 9,(.move (.tmp 1)),none⟩,
 .op 3 ⟨some 10,(.indexAddrS 1 (.tmp 8) (.tmp 9)),none⟩,
 .op 4 ⟨some 11,(.load1 (.tmp 10)),none⟩,
 .op 5 ⟨some 12,(.bin .lss .prim (.tmp 11) (.con (.int .i64 0))),none⟩,
 .op 6 ⟨some 13,(.move (.tmp 12)),none⟩,
 .op 7 ⟨some 14,(.fieldAddr 2 (.tmp 3)),some (13,false)⟩,
 .op 8 ⟨some 15,(.load1 (.tmp 14)),some (13,false)⟩,
 .op 9 ⟨some 16,(.move (.tmp 2)),some (13,false)⟩,
 .op 10 ⟨some 17,(.indexAddrS 1 (.tmp 15) (.tmp 16)),some (13,false)⟩,
 .op 11 ⟨some 18,(.load1 (.tmp 17)),some (13,false)⟩,
 .op 12 ⟨some 19,(.bin .geq .prim (.tmp 18) (.con (.int .i64 0))),some (13,false)⟩,
 .op 13 ⟨some 20,(.move (.tmp 19)),some (13,false)⟩,
 .op 14 ⟨some 21,(.fieldAddr 2 (.tmp 3)),some (20,true)⟩,
 .op 15 ⟨some 22,(.load1 (.tmp 21)),some (20,true)⟩,
 .op 16 ⟨some 23,(.move (.tmp 1)),some (20,true)⟩,
 .op 17 ⟨some 24,(.indexAddrS 1 (.tmp 22) (.tmp 23)),some (20,true)⟩,
 .op 18 ⟨some 25,(.load1 (.tmp 24)),some (20,true)⟩,
 .op 19 ⟨some 26,(.fieldAddr 2 (.tmp 3)),some (20,true)⟩,
 .op 20 ⟨some 27,(.load1 (.tmp 26)),some (20,true)⟩,
 .op 21 ⟨some 28,(.move (.tmp 2)),some (20,true)⟩,
 .op 22 ⟨some 29,(.indexAddrS 1 (.tmp 27) (.tmp 28)),some (20,true)⟩,
 .op 23 ⟨some 30,(.load1 (.tmp 29)),some (20,true)⟩,
 .op 24 ⟨some 31,(.bin .gtr .prim (.tmp 25) (.tmp 30)),some (20,true)⟩,
 .op 25 ⟨some 32,(.pick (.tmp 20) (.tmp 31) (.con (.bool false))),some (13,false)⟩,
 .op 26 ⟨some 33,(.pick (.tmp 13) (.con (.bool true)) (.tmp 32)),none⟩,
 .op 27 ⟨some 6,(.move (.tmp 33)),none⟩])
 .ret))⟩
theorem F53_ok : cfn tab F53.body Tryz.f53 = some F53 := by kernel_rfl

/- (milestone/hier.key).by -/
def F55 : AFn := ⟨22,[.tmp 4],
 (.seq (.region [⟨some 2,(.box 3 (.tmp 0)),none⟩,
 ⟨some 3,(.box 3 (.tmp 1)),none⟩,
 ⟨some 4,(.move (.con (.int .i64 0))),none⟩])
 (.seq (.dregion [[],[0],[],[2],[2,3,0,1],[],[5],[],[7],[1,0,3,2,4,7,8,5,6],[],[10],[],[12],[6,5,8,7,4,2,3,0,1,9,12,13,10,11],[11,10,13,12,14,6,5,8,7,9,1,0,3,2,4],[4,2,3,0,1,9,7,8,5,6,14,12,13,10,11,15],[15,11,10,13,12,14,6,5,8,7,9,1,0,3,2,4,16]] [.op 0 ⟨some 5,(.fieldAddr 0 (.tmp 2)),none⟩,
 .op 1 ⟨some 6,(.load1 (.tmp 5)),none⟩,
 .op 2 ⟨some 7,(.fieldAddr 0 (.tmp 3)),none⟩,
 .op 3 ⟨some 8,(.load1 (.tmp 7)),none⟩,
 .op 5 ⟨some 10,(.fieldAddr 1 (.tmp 2)),none⟩,
 .op 6 ⟨some 11,(.load1 (.tmp 10)),none⟩,
 .op 7 ⟨some 12,(.fieldAddr 1 (.tmp 3)),none⟩,
 .op 8 ⟨some 13,(.load1 (.tmp 12)),none⟩,
 .op 10 ⟨some 15,(.fieldAddr 2 (.tmp 2)),none⟩,
 .op 11 ⟨some 16,(.load1 (.tmp 15)),none⟩,
 .op 12 ⟨some 17,(.fieldAddr 2 (.tmp 3)),none⟩,
 .op 13 ⟨some 18,(.load1 (.tmp 17)),none⟩,
 .op 4 ⟨some 9,(.call 73 [(.tmp 6),(.tmp 8)]),none⟩,
 .re 6 ⟨some 11,(.load1 (.tmp 10)),none⟩,
 .re 8 ⟨some 13,(.load1 (.tmp 12)),none⟩,
 .re 11 ⟨some 16,(.load1 (.tmp 15)),none⟩,
 .re 13 ⟨some 18,(.load1 (.tmp 17)),none⟩,
 .op 9 ⟨some 14,(.call 73 [(.tmp 11),(.tmp 13)]),none⟩,
 .re 11 ⟨some 16,(.load1 (.tmp 15)),none⟩,
 .re 13 ⟨some 18,(.load1 (.tmp 17)),none⟩,
 .op 14 ⟨some 19,(.call 73 [(.tmp 16),(.tmp 18)]),none⟩,
 .op 15 ⟨some 20,(.buildSlice [(.int .i64 0),(.int .i64 0),(.int .i64 0)] 3 [(0,1,(.tmp 9)),(1,1,(.tmp 14)),(2,1,(.tmp 19))]),none⟩,
 .op 16 ⟨some 21,(.call 72 [(.tmp 20)]),none⟩,
 .op 17 ⟨some 4,(.move (.tmp 21)),none⟩])
 .ret))⟩
theorem F55_ok : cfn tab F55.body Tryz.f55 = some F55 := by kernel_rfl

/- (*milestone/hier.builder).add -/
def F56 : AFn := ⟨33,[],
 (.seq (.region [⟨some 3,(.box 7 (.tmp 1)),none⟩])
 (.seq (.dregion [[],[0],[0,1],[1,0,2],[],[4],[],[6],[],[8],[8,9,6,7,4,5],[],[11],[11,12],[12,11,13],[13,11,12,14],[14,12,11,13,15],[15,13,11,12,14,16,5,4,7,6,9,8,10,2,0,1,3]] [.op 0 ⟨some 4,(.move (.tmp 0)),none⟩,
 .op 1 ⟨some 5,(.nilCheck (.tmp 4)),none⟩,
 .op 2 ⟨some 6,(.fieldAddr 6 (.tmp 5)),none⟩,
 .op 3 ⟨some 7,(.load1 (.tmp 6)),none⟩,
 .op 4 ⟨some 8,(.fieldAddr 0 (.tmp 3)),none⟩,
 .op 5 ⟨some 9,(.load1 (.tmp 8)),none⟩,
 .op 6 ⟨some 10,(.fieldAddr 1 (.tmp 3)),none⟩,
 .op 7 ⟨some 11,(.load1 (.tmp 10)),none⟩,
 .op 8 ⟨some 12,(.fieldAddr 2 (.tmp 3)),none⟩,
 .op 9 ⟨some 13,(.load1 (.tmp 12)),none⟩,
 .op 10 ⟨some 14,(.build [(.int .i64 0),(.int .i64 0),(.int .i64 0)] [(0,1,(.tmp 9)),(1,1,(.tmp 11)),(2,1,(.tmp 13))]),none⟩,
 .op 11 ⟨some 15,(.move (.tmp 0)),none⟩,
 .op 12 ⟨some 16,(.nilCheck (.tmp 15)),none⟩,
 .op 13 ⟨some 17,(.fieldAddr 0 (.tmp 16)),none⟩,
 .op 14 ⟨some 18,(.fieldAddr 3 (.tmp 17)),none⟩,
 .op 15 ⟨some 19,(.load1 (.tmp 18)),none⟩,
 .op 16 ⟨some 20,(.lenS (.tmp 19)),none⟩,
 .op 17 ⟨none,(.mapUpdate (.many [.int,.int,.int]) (.tmp 7) (.tmp 14) (.tmp 20)),none⟩])
 (.dregion [[],[],[1],[1,2],[2,1,3],[3,1,2,4],[],[6],[6,7,4,2,1,3,5],[8,7,6,5,4,3,2,1,0],[0,1,2,3,4,5,6,7,8,9],[9,8,7,6,5,4,3,2,1,0,10],[10,0,1,2,3,4,5,6,7,8,9,11]] [.op 0 ⟨some 21,(.move (.tmp 0)),none⟩,
 .op 1 ⟨some 22,(.move (.tmp 0)),none⟩,
 .op 2 ⟨some 23,(.nilCheck (.tmp 22)),none⟩,
 .op 3 ⟨some 24,(.fieldAddr 0 (.tmp 23)),none⟩,
 .op 4 ⟨some 25,(.fieldAddr 3 (.tmp 24)),none⟩,
 .op 5 ⟨some 26,(.load1 (.tmp 25)),none⟩,
 .op 6 ⟨some 27,(.loadN 7 (.tmp 3)),none⟩,
 .op 7 ⟨some 28,(.buildSlice [(.int .i64 0),(.int .i64 0),(.int .i64 0),(.int .i64 0),(.int .i64 0),(.int .i64 0),(.int .i64 0)] 1 [(0,7,(.tmp 27))]),none⟩,
 .op 8 ⟨some 29,(.append 7 56 (.tmp 26) (.tmp 28)),none⟩,
 .op 9 ⟨some 30,(.nilCheck (.tmp 21)),none⟩,
 .op 10 ⟨some 31,(.fieldAddr 0 (.tmp 30)),none⟩,
 .op 11 ⟨some 32,(.fieldAddr 3 (.tmp 31)),none⟩,
 .op 12 ⟨none,(.store 1 (.tmp 32) (.tmp 29)),none⟩])))⟩
theorem F56_ok : cfn tab F56.body Tryz.f56 = some F56 := by kernel_rfl

/- milestone/adj.New -/
def F57 : AFn := ⟨67,[.tmp 2],
 (.seq (.region [⟨some 1,(.box 2 (.tmp 0)),none⟩,
 ⟨some 2,(.move (.con .nilPtr)),none⟩])
 (.seq (.dregion [[],[0],[0,1],[1,0,2],[],[4],[4,5],[5,4,6],[6,4,5,7,2,0,1,3],[3,1,0,2,7,5,4,6,8],[8,6,4,5,7,2,0,1,3,9]] [.op 0 ⟨some 6,(.fieldAddr 0 (.tmp 1)),none⟩,
 .op 1 ⟨some 7,(.load1 (.tmp 6)),none⟩,
 .op 2 ⟨some 8,(.max [(.tmp 7),(.con (.int .i64 0))]),none⟩,
 .op 3 ⟨some 9,(.mkSlice [.nilSlice,.nilSlice] 48 (.tmp 8) (.tmp 8)),none⟩,
 .op 4 ⟨some 10,(.fieldAddr 0 (.tmp 1)),none⟩,
 .op 5 ⟨some 11,(.load1 (.tmp 10)),none⟩,
 .op 6 ⟨some 12,(.max [(.tmp 11),(.con (.int .i64 0))]),none⟩,
 .op 7 ⟨some 13,(.mkSlice [.nilSlice,.nilSlice] 48 (.tmp 12) (.tmp 12)),none⟩,
 .op 8 ⟨some 14,(.build [(.int .i64 0),.nilSlice,.nilSlice,.nilSlice] [(2,1,(.tmp 9)),(3,1,(.tmp 13))]),none⟩,
 .op 9 ⟨some 15,(.box 4 (.tmp 14)),none⟩,
 .op 10 ⟨some 3,(.move (.tmp 15)),none⟩])
 (.seq (.dregion [[],[],[1],[],[3],[3,4],[4,3,5,1,2],[6,5,4,3,2,1,0],[0,1,2,3,4,5,6,7],[7,6,5,4,3,2,1,0,8]] [.op 0 ⟨some 16,(.move (.tmp 3)),none⟩,
 .op 1 ⟨some 17,(.fieldAddr 0 (.tmp 1)),none⟩,
 .op 2 ⟨some 18,(.load1 (.tmp 17)),none⟩,
 .op 3 ⟨some 19,(.fieldAddr 1 (.tmp 1)),none⟩,
 .op 4 ⟨some 20,(.load1 (.tmp 19)),none⟩,
 .op 5 ⟨some 21,(.call 31 [(.tmp 20)]),none⟩,
 .re 2 ⟨some 18,(.load1 (.tmp 17)),none⟩,
 .op 6 ⟨some 22,(.build [(.int .i64 0),.nilSlice] [(0,1,(.tmp 18)),(1,1,(.tmp 21))]),none⟩,
 .op 7 ⟨some 23,(.nilCheck (.tmp 16)),none⟩,
 .op 8 ⟨some 24,(.fieldAddr 0 (.tmp 23)),none⟩,
 .op 9 ⟨none,(.store 2 (.tmp 24) (.tmp 22)),none⟩])
 (.seq (.seq (.region [⟨some 25,(.fieldAddr 1 (.tmp 1)),none⟩,
 ⟨some 26,(.load1 (.tmp 25)),none⟩,
 ⟨some 27,(.lenS (.tmp 26)),none⟩,
 ⟨some 28,(.move (.con (.int .i64 0))),none⟩])
 (.join [false,false,true,true] (.block 0 (.loop [false,false,false,true,false,false,false,false,false,false,false,false,false,false,false,false,false,false,false,false,false,false,false,false,false,false,true,true,true] [false,false,true,true]
 (.seq (.region [⟨some 29,(.bin .lss .prim (.tmp 28) (.tmp 27)),none⟩])
 (.seq (.cond (.tmp 29)
 .skip
 (.exit 0))
 (.seq (.block 1 (.seq (.region [⟨some 30,(.move (.tmp 28)),none⟩,
 ⟨some 31,(.indexAddrS 4 (.tmp 26) (.tmp 28)),none⟩,
 ⟨some 32,(.loadN 4 (.tmp 31)),none⟩,
 ⟨some 5,(.alloc [(.int .i64 0),(.int .i64 0),(.int .i64 0),(.int .i64 0)]),none⟩,
 ⟨some 4,(.move (.tmp 30)),none⟩,
 ⟨none,(.store 4 (.tmp 5) (.tmp 32)),none⟩])
 (.seq (.region [⟨some 33,(.move (.tmp 3)),none⟩,
 ⟨some 34,(.fieldAddr 0 (.tmp 5)),none⟩,
 ⟨some 35,(.load1 (.tmp 34)),none⟩,
 ⟨some 36,(.call 74 [(.tmp 33),(.tmp 35)]),none⟩,
 ⟨some 37,(.move (.tmp 36)),none⟩,
 ⟨some 38,(.move (.tmp 3)),some (37,true)⟩,
 ⟨some 39,(.fieldAddr 1 (.tmp 5)),some (37,true)⟩,
 ⟨some 40,(.load1 (.tmp 39)),some (37,true)⟩,
 ⟨some 41,(.call 74 [(.tmp 38),(.tmp 40)]),some (37,true)⟩,
 ⟨some 42,(.pick (.tmp 37) (.tmp 41) (.con (.bool false))),none⟩])
 (.cond (.tmp 42)
 (.seq (.dregion [[],[0],[0,1],[1,0,2],[],[4],[4,5,2,0,1,3],[],[],[8],[8,9,7,3,1,0,2,5,4,6]] [.op 0 ⟨some 43,(.move (.tmp 3)),none⟩,
 .op 1 ⟨some 44,(.nilCheck (.tmp 43)),none⟩,
 .op 2 ⟨some 45,(.fieldAddr 2 (.tmp 44)),none⟩,
 .op 3 ⟨some 46,(.load1 (.tmp 45)),none⟩,
 .op 4 ⟨some 47,(.fieldAddr 0 (.tmp 5)),none⟩,
 .op 5 ⟨some 48,(.load1 (.tmp 47)),none⟩,
 .op 6 ⟨some 49,(.indexAddrS 2 (.tmp 46) (.tmp 48)),none⟩,
 .op 7 ⟨some 50,(.move (.tmp 4)),none⟩,
 .op 8 ⟨some 51,(.fieldAddr 1 (.tmp 5)),none⟩,
 .op 9 ⟨some 52,(.load1 (.tmp 51)),none⟩,
 .op 10 ⟨some 53,(.call 75 [(.tmp 49),(.tmp 50),(.tmp 52)]),none⟩])
 (.dregion [[],[0],[0,1],[1,0,2],[],[4],[4,5,2,0,1,3],[],[],[8],[8,9,7,3,1,0,2,5,4,6]] [.op 0 ⟨some 54,(.move (.tmp 3)),none⟩,
 .op 1 ⟨some 55,(.nilCheck (.tmp 54)),none⟩,
 .op 2 ⟨some 56,(.fieldAddr 3 (.tmp 55)),none⟩,
 .op 3 ⟨some 57,(.load1 (.tmp 56)),none⟩,
 .op 4 ⟨some 58,(.fieldAddr 1 (.tmp 5)),none⟩,
 .op 5 ⟨some 59,(.load1 (.tmp 58)),none⟩,
 .op 6 ⟨some 60,(.indexAddrS 2 (.tmp 57) (.tmp 59)),none⟩,
 .op 7 ⟨some 61,(.move (.tmp 4)),none⟩,
 .op 8 ⟨some 62,(.fieldAddr 0 (.tmp 5)),none⟩,
 .op 9 ⟨some 63,(.load1 (.tmp 62)),none⟩,
 .op 10 ⟨some 64,(.call 75 [(.tmp 60),(.tmp 61),(.tmp 63)]),none⟩]))
 .skip))))
 (.region [⟨some 65,(.bin .add .prim (.tmp 28) (.con (.int .i64 1))),none⟩,
 ⟨some 28,(.move (.tmp 65)),none⟩]))))))))
 (.seq (.region [⟨some 66,(.move (.tmp 3)),none⟩,
 ⟨some 2,(.move (.tmp 66)),none⟩])
 .ret)))))⟩
theorem F57_ok : cfn tab F57.body Tryz.f57 = some F57 := by kernel_rfl

/- (*milestone/adj.Adj).Out -/
def F58 : AFn := ⟨15,[.tmp 4],
 (.seq (.region [⟨some 4,(.move (.con .nilSlice)),none⟩])
 (.seq (.region [⟨some 5,(.move (.con (.func (.func 76) [] []))),none⟩])
 (.seq (.region [⟨some 6,(.move (.tmp 5)),none⟩,
 ⟨some 7,(.move (.tmp 0)),none⟩,
 ⟨some 8,(.move (.tmp 0)),none⟩,
 ⟨some 9,(.nilCheck (.tmp 8)),none⟩,
 ⟨some 10,(.fieldAddr 2 (.tmp 9)),none⟩,
 ⟨some 11,(.load1 (.tmp 10)),none⟩,
 ⟨some 12,(.move (.tmp 1)),none⟩,
 ⟨some 13,(.call 77 [(.tmp 7),(.tmp 11),(.tmp 12)]),none⟩,
 ⟨some 14,(.callv (.tmp 6) [(.tmp 13)]),none⟩,
 ⟨some 4,(.move (.tmp 14)),none⟩])
 .ret)))⟩
theorem F58_ok : cfn tab F58.body Tryz.f58 = some F58 := by kernel_rfl

/- (*milestone/adj.Adj).In -/
def F59 : AFn := ⟨15,[.tmp 4],
 (.seq (.region [⟨some 4,(.move (.con .nilSlice)),none⟩])
 (.seq (.region [⟨some 5,(.move (.con (.func (.func 76) [] []))),none⟩])
 (.seq (.region [⟨some 6,(.move (.tmp 5)),none⟩,
 ⟨some 7,(.move (.tmp 0)),none⟩,
 ⟨some 8,(.move (.tmp 0)),none⟩,
 ⟨some 9,(.nilCheck (.tmp 8)),none⟩,
 ⟨some 10,(.fieldAddr 3 (.tmp 9)),none⟩,
 ⟨some 11,(.load1 (.tmp 10)),none⟩,
 ⟨some 12,(.move (.tmp 1)),none⟩,
 ⟨some 13,(.call 77 [(.tmp 7),(.tmp 11),(.tmp 12)]),none⟩,
 ⟨some 14,(.callv (.tmp 6) [(.tmp 13)]),none⟩,
 ⟨some 4,(.move (.tmp 14)),none⟩])
 .ret)))⟩
theorem F59_ok : cfn tab F59.body Tryz.f59 = some F59 := by kernel_rfl

/- milestone/order.Links -/
def F60 : AFn := ⟨29,[.tmp 2],
 (.seq (.region [⟨some 1,(.box 2 (.tmp 0)),none⟩,
 ⟨some 2,(.move (.con .nilSlice)),none⟩])
 (.seq (.region [⟨some 6,(.loadN 2 (.tmp 1)),none⟩,
 ⟨some 7,(.call 57 [(.tmp 6)]),none⟩,
 ⟨some 8,(.mkFunc (.func 78) [(.tmp 7)] []),none⟩,
 ⟨some 3,(.move (.tmp 8)),none⟩])
 (.seq (.region [⟨some 9,(.fieldAddr 0 (.tmp 1)),none⟩,
 ⟨some 10,(.load1 (.tmp 9)),none⟩,
 ⟨some 11,(.max [(.tmp 10),(.con (.int .i64 0))]),none⟩,
 ⟨some 12,(.mkSlice [(.bool false)] 1 (.tmp 11) (.tmp 11)),none⟩,
 ⟨some 4,(.move (.tmp 12)),none⟩])
 (.seq (.seq (.region [⟨some 13,(.move (.tmp 4)),none⟩,
 ⟨some 14,(.lenS (.tmp 13)),none⟩,
 ⟨some 15,(.move (.con (.int .i64 0))),none⟩])
 (.join [false,false,true,false,true] (.block 0 (.loop [false,false,false,true,true,false,false,false,false,false,false,false,false,false,true,true] [false,false,true,false,true]
 (.seq (.region [⟨some 16,(.bin .lss .prim (.tmp 15) (.tmp 14)),none⟩])
 (.seq (.cond (.tmp 16)
 .skip
 (.exit 0))
 (.seq (.block 1 (.seq (.region [⟨some 17,(.move (.tmp 15)),none⟩,
 ⟨some 5,(.move (.tmp 17)),none⟩])
 (.region [⟨some 18,(.move (.tmp 4)),none⟩,
 ⟨some 19,(.move (.tmp 5)),none⟩,
 ⟨some 20,(.move (.tmp 3)),none⟩,
 ⟨some 21,(.move (.tmp 5)),none⟩,
 ⟨some 22,(.callv (.tmp 20) [(.tmp 21)]),none⟩,
 ⟨some 23,(.toInt .u64 (.tmp 22)),none⟩,
 ⟨some 24,(.call 79 [(.tmp 23)]),none⟩,
 ⟨some 25,(.bin .gtr .prim (.tmp 24) (.con (.int .i64 1))),none⟩,
 ⟨some 26,(.indexAddrS 1 (.tmp 18) (.tmp 19)),none⟩,
 ⟨none,(.store 1 (.tmp 26) (.tmp 25)),none⟩])))
 (.region [⟨some 27,(.bin .add .prim (.tmp 15) (.con (.int .i64 1))),none⟩,
 ⟨some 15,(.move (.tmp 27)),none⟩]))))))))
 (.seq (.region [⟨some 28,(.move (.tmp 4)),none⟩,
 ⟨some 2,(.move (.tmp 28)),none⟩])
 .ret)))))⟩
theorem F60_ok : cfn tab F60.body Tryz.f60 = some F60 := by kernel_rfl

/- milestone/order.Order$1 -/
def F62 : AFn := ⟨8,[.tmp 4],
 (.seq (.region [⟨some 2,(.box 2 (.tmp 0)),none⟩,
 ⟨some 3,(.box 2 (.tmp 1)),none⟩,
 ⟨some 4,(.move (.con (.int .i64 0))),none⟩])
 (.seq (.region [⟨some 5,(.loadN 2 (.tmp 2)),none⟩,
 ⟨some 6,(.loadN 2 (.tmp 3)),none⟩,
 ⟨some 7,(.call 63 [(.tmp 5),(.tmp 6)]),none⟩,
 ⟨some 4,(.move (.tmp 7)),none⟩])
 .ret))⟩
theorem F62_ok : cfn tab F62.body Tryz.f62 = some F62 := by kernel_rfl

/- (milestone/order.ranked).before -/
def F63 : AFn := ⟨17,[.tmp 4],
 (.seq (.region [⟨some 2,(.box 2 (.tmp 0)),none⟩,
 ⟨some 3,(.box 2 (.tmp 1)),none⟩,
 ⟨some 4,(.move (.con (.int .i64 0))),none⟩])
 (.seq (.dregion [[],[0],[],[2],[2,3,0,1],[],[5],[],[7],[1,0,3,2,4,7,8,5,6],[6,5,8,7,9,1,0,3,2,4],[4,2,3,0,1,9,7,8,5,6,10],[10,6,5,8,7,9,1,0,3,2,4,11]] [.op 0 ⟨some 5,(.fieldAddr 1 (.tmp 2)),none⟩,
 .op 1 ⟨some 6,(.load1 (.tmp 5)),none⟩,
 .op 2 ⟨some 7,(.fieldAddr 1 (.tmp 3)),none⟩,
 .op 3 ⟨some 8,(.load1 (.tmp 7)),none⟩,
 .op 5 ⟨some 10,(.fieldAddr 0 (.tmp 2)),none⟩,
 .op 6 ⟨some 11,(.load1 (.tmp 10)),none⟩,
 .op 7 ⟨some 12,(.fieldAddr 0 (.tmp 3)),none⟩,
 .op 8 ⟨some 13,(.load1 (.tmp 12)),none⟩,
 .op 4 ⟨some 9,(.call 73 [(.tmp 6),(.tmp 8)]),none⟩,
 .re 6 ⟨some 11,(.load1 (.tmp 10)),none⟩,
 .re 8 ⟨some 13,(.load1 (.tmp 12)),none⟩,
 .op 9 ⟨some 14,(.call 73 [(.tmp 11),(.tmp 13)]),none⟩,
 .op 10 ⟨some 15,(.buildSlice [(.int .i64 0),(.int .i64 0)] 2 [(0,1,(.tmp 9)),(1,1,(.tmp 14))]),none⟩,
 .op 11 ⟨some 16,(.call 72 [(.tmp 15)]),none⟩,
 .op 12 ⟨some 4,(.move (.tmp 16)),none⟩])
 .ret))⟩
theorem F63_ok : cfn tab F63.body Tryz.f63 = some F63 := by kernel_rfl

/- (*milestone/hier.builder).goes$1 -/
def F64 : AFn := ⟨20,[.tmp 4],
 (.seq (.region [⟨some 3,(.box 3 (.tmp 0)),none⟩,
 ⟨some 4,(.move (.con (.bool false))),none⟩])
 (.seq (.dregion [[],[0],[],[2,0,1],[1,0,2,3],[3,2,0,1,4],[4,1,0,2,3,5],[5,3,2,0,1,4,6],[6,4,1,0,2,3,5,7],[3,2,0,1,4],[4,1,0,2,3,9],[9,10,7,5,3,2,0,1,4,6,8],[8,6,4,1,0,2,3,5,7,10,9,11],[11,9,10,7,5,3,2,0,1,4,6,8,12],[12,8,6,5,7,10,9,11,13,3,2,0,1,4],[4,1,0,2,3,13,11,9,10,7,5,6,8,12,14]] [.op 0 ⟨some 5,(.fieldAddr 0 (.tmp 3)),none⟩,
 .op 1 ⟨some 6,(.load1 (.tmp 5)),none⟩,
 .op 2 ⟨some 7,(.load1 (.tmp 1)),none⟩,
 .op 3 ⟨some 8,(.bin .eql .prim (.tmp 6) (.tmp 7)),none⟩,
 .op 4 ⟨some 9,(.move (.tmp 8)),none⟩,
 .op 5 ⟨some 10,(.load1 (.tmp 2)),some (9,true)⟩,
 .op 6 ⟨some 11,(.nilCheck (.tmp 10)),some (9,true)⟩,
 .op 7 ⟨some 12,(.fieldAddr 7 (.tmp 11)),some (9,true)⟩,
 .op 8 ⟨some 13,(.load1 (.tmp 12)),some (9,true)⟩,
 .op 9 ⟨some 14,(.fieldAddr 1 (.tmp 3)),some (9,true)⟩,
 .op 10 ⟨some 15,(.load1 (.tmp 14)),some (9,true)⟩,
 .op 11 ⟨some 16,(.indexAddrS 1 (.tmp 13) (.tmp 15)),some (9,true)⟩,
 .op 12 ⟨some 17,(.load1 (.tmp 16)),some (9,true)⟩,
 .op 13 ⟨some 18,(.un .not (.tmp 17)),some (9,true)⟩,
 .op 14 ⟨some 19,(.pick (.tmp 9) (.tmp 18) (.con (.bool false))),none⟩,
 .op 15 ⟨some 4,(.move (.tmp 19)),none⟩])
 .ret))⟩
theorem F64_ok : cfn tab F64.body Tryz.f64 = some F64 := by kernel_rfl

/- (*milestone/hier.builder).goes$2 -/
def F65 : AFn := ⟨26,[.tmp 4],
 (.seq (.region [⟨some 3,(.box 3 (.tmp 0)),none⟩,
 ⟨some 4,(.move (.con (.bool false))),none⟩])
 (.seq (.dregion [[],[0],[],[2,0,1],[1,0,2,3],[3,2,0,1,4],[4,1,0,2,3,5],[3,2,0,1,4],[7,5,3,2,0,1,4,6],[6,5,7,8,3,2,0,1,4],[4,1,0,2,3,8,7,5,6,9],[9,6,5,7,8,3,2,0,1,4,10],[10,4,1,0,2,3,8,7,5,6,9,11],[11,9,6,5,7,8,3,2,0,1,4,10,12],[12,10,4,1,0,2,3,8,7,5,6,9,11,13],[9,6,5,7,8,3,2,0,1,4,10],[10,4,1,0,2,3,8,7,5,6,9,15],[15,16,13,11,9,6,5,7,8,3,2,0,1,4,10,12,14],[14,12,10,4,1,0,2,3,8,7,5,6,9,11,13,16,15,17],[17,15,16,13,11,9,6,5,7,8,3,2,0,1,4,10,12,14,18],[18,14,12,11,13,16,15,17,19,9,6,5,7,8,3,2,0,1,4,10],[10,4,1,0,2,3,8,7,5,6,9,19,17,15,16,13,11,12,14,18,20]] [.op 0 ⟨some 5,(.fieldAddr 1 (.tmp 3)),none⟩,
 .op 1 ⟨some 6,(.load1 (.tmp 5)),none⟩,
 .op 2 ⟨some 7,(.load1 (.tmp 1)),none⟩,
 .op 3 ⟨some 8,(.bin .eql .prim (.tmp 6) (.tmp 7)),none⟩,
 .op 4 ⟨some 9,(.move (.tmp 8)),none⟩,
 .op 5 ⟨some 10,(.fieldAddr 0 (.tmp 3)),some (9,true)⟩,
 .op 6 ⟨some 11,(.load1 (.tmp 10)),some (9,true)⟩,
 .op 7 ⟨some 12,(.load1 (.tmp 1)),some (9,true)⟩,
 .op 8 ⟨some 13,(.bin .neq .prim (.tmp 11) (.tmp 12)),some (9,true)⟩,
 .op 9 ⟨some 14,(.pick (.tmp 9) (.tmp 13) (.con (.bool false))),none⟩,
 .op 10 ⟨some 15,(.move (.tmp 14)),none⟩,
 .op 11 ⟨some 16,(.load1 (.tmp 2)),some (15,true)⟩,
 .op 12 ⟨some 17,(.nilCheck (.tmp 16)),some (15,true)⟩,
 .op 13 ⟨some 18,(.fieldAddr 7 (.tmp 17)),some (15,true)⟩,
 .op 14 ⟨some 19,(.load1 (.tmp 18)),some (15,true)⟩,
 .op 15 ⟨some 20,(.fieldAddr 0 (.tmp 3)),some (15,true)⟩,
 .op 16 ⟨some 21,(.load1 (.tmp 20)),some (15,true)⟩,
 .op 17 ⟨some 22,(.indexAddrS 1 (.tmp 19) (.tmp 21)),some (15,true)⟩,
 .op 18 ⟨some 23,(.load1 (.tmp 22)),some (15,true)⟩,
 .op 19 ⟨some 24,(.un .not (.tmp 23)),some (15,true)⟩,
 .op 20 ⟨some 25,(.pick (.tmp 15) (.tmp 24) (.con (.bool false))),none⟩,
 .op 21 ⟨some 4,(.move (.tmp 25)),none⟩])
 .ret))⟩
theorem F65_ok : cfn tab F65.body Tryz.f65 = some F65 := by kernel_rfl

/- (*milestone/hier.builder).around -/
def F66 : AFn := ⟨81,[],
 (.seq (.dregion [[],[0],[0,1],[1,0,2],[2,0,1,3],[],[5,3,1,0,2,4],[4,2,0,1,3,5,6],[],[8],[8,9],[9,8,10],[10,8,9,11],[],[13,11,9,8,10,12],[12,10,8,9,11,13,14],[],[],[17,6,5,3,1,0,2,4,7,16],[16,7,4,2,0,1,3,5,6,18,14,13,11,9,8,10,12,15,17]] [.op 0 ⟨some 10,(.move (.tmp 0)),none⟩,
 .op 1 ⟨some 11,(.nilCheck (.tmp 10)),none⟩,
 .op 2 ⟨some 12,(.fieldAddr 0 (.tmp 11)),none⟩,
 .op 3 ⟨some 13,(.fieldAddr 3 (.tmp 12)),none⟩,
 .op 4 ⟨some 14,(.load1 (.tmp 13)),none⟩,
 .op 5 ⟨some 15,(.move (.tmp 1)),none⟩,
 .op 6 ⟨some 16,(.indexAddrS 7 (.tmp 14) (.tmp 15)),none⟩,
 .op 7 ⟨some 17,(.loadN 7 (.tmp 16)),none⟩,
 .op 8 ⟨some 18,(.move (.tmp 0)),none⟩,
 .op 9 ⟨some 19,(.nilCheck (.tmp 18)),none⟩,
 .op 10 ⟨some 20,(.fieldAddr 0 (.tmp 19)),none⟩,
 .op 11 ⟨some 21,(.fieldAddr 3 (.tmp 20)),none⟩,
 .op 12 ⟨some 22,(.load1 (.tmp 21)),none⟩,
 .op 13 ⟨some 23,(.move (.tmp 2)),none⟩,
 .op 14 ⟨some 24,(.indexAddrS 7 (.tmp 22) (.tmp 23)),none⟩,
 .op 15 ⟨some 25,(.loadN 7 (.tmp 24)),none⟩,
 .op 16 ⟨some 6,(.alloc [(.int .i64 0),(.int .i64 0),(.int .i64 0),(.int .i64 0),(.int .i64 0),(.int .i64 0),(.int .i64 0)]),none⟩,
 .op 17 ⟨some 7,(.alloc [(.int .i64 0),(.int .i64 0),(.int .i64 0),(.int .i64 0),(.int .i64 0),(.int .i64 0),(.int .i64 0)]),none⟩,
 .op 18 ⟨none,(.store 7 (.tmp 6) (.tmp 17)),none⟩,
 .re 12 ⟨some 22,(.load1 (.tmp 21)),none⟩,
 .re 15 ⟨some 25,(.loadN 7 (.tmp 24)),none⟩,
 .op 19 ⟨none,(.store 7 (.tmp 7) (.tmp 25)),none⟩])
 (.seq (.seq (.region [⟨some 26,(.fieldAddr 2 (.tmp 6)),none⟩,
 ⟨some 27,(.load1 (.tmp 26)),none⟩,
 ⟨some 28,(.fieldAddr 2 (.tmp 7)),none⟩,
 ⟨some 29,(.load1 (.tmp 28)),none⟩,
 ⟨some 30,(.bin .neq .prim (.tmp 27) (.tmp 29)),none⟩])
 (.cond (.tmp 30)
 .ret
 .skip))
 (.seq (.dregion [[],[0],[0,1],[1,0,2],[],[4],[],[6],[],[8],[8,9,6,7,4,5],[5,4,7,6,9,8,10,2,0,1,3],[3,1,0,2,10,8,9,6,7,4,5,11],[11,5,4,7,6,9,8,10,2,0,1,3,12],[11,5,4,7,6,9,8,10,2,0,1,3,12],[12,3,1,0,2,10,8,9,6,7,4,5,11,13],[13,15,12,3,1,0,2,10,8,9,6,7,4,5,11,14]] [.op 0 ⟨some 32,(.move (.tmp 0)),none⟩,
 .op 1 ⟨some 33,(.nilCheck (.tmp 32)),none⟩,
 .op 2 ⟨some 34,(.fieldAddr 6 (.tmp 33)),none⟩,
 .op 3 ⟨some 35,(.load1 (.tmp 34)),none⟩,
 .op 4 ⟨some 36,(.fieldAddr 0 (.tmp 6)),none⟩,
 .op 5 ⟨some 37,(.load1 (.tmp 36)),none⟩,
 .op 6 ⟨some 38,(.fieldAddr 1 (.tmp 7)),none⟩,
 .op 7 ⟨some 39,(.load1 (.tmp 38)),none⟩,
 .op 8 ⟨some 40,(.fieldAddr 2 (.tmp 6)),none⟩,
 .op 9 ⟨some 41,(.load1 (.tmp 40)),none⟩,
 .op 10 ⟨some 42,(.build [(.int .i64 0),(.int .i64 0),(.int .i64 0)] [(0,1,(.tmp 37)),(1,1,(.tmp 39)),(2,1,(.tmp 41))]),none⟩,
 .op 11 ⟨some 43,(.lookup (.many [.int,.int,.int]) (.int .i64 0) (.tmp 35) (.tmp 42) true),none⟩,
 .op 12 ⟨some 31,(.move (.tmp 43)),none⟩,
 .op 13 ⟨some 44,(.extract (.tmp 31) 0),none⟩,
 .op 14 ⟨some 45,(.extract (.tmp 31) 1),none⟩,
 .op 15 ⟨some 8,(.move (.tmp 44)),none⟩,
 .op 16 ⟨some 9,(.move (.tmp 45)),none⟩])
 (.seq (.dregion [[],[0],[0,1],[1,0,2],[2,0,1,3],[3,1,0,2,4],[4,2,0,1,3,5],[5,3,1,0,2,4,6],[1,0,2],[8,6,4,2,0,1,3,5,7],[7,5,3,1,0,2,4,6,8,9],[9,8,6,4,2,0,1,3,5,7,10],[1,0,2],[2,0,1,12],[1,0,2],[2,0,1,14],[14,15,12,1,0,2,13],[13,12,15,14,16,10,7,5,3,1,0,2,4,6,8,9,11],[11,9,8,6,4,3,5,7,10,16,14,15,12,13,17,1,0,2]] [.op 0 ⟨some 46,(.move (.tmp 9)),none⟩,
 .op 1 ⟨some 47,(.un .not (.tmp 46)),none⟩,
 .op 2 ⟨some 48,(.move (.tmp 47)),none⟩,
 .op 3 ⟨some 49,(.move (.tmp 0)),some (48,false)⟩,
 .op 4 ⟨some 50,(.nilCheck (.tmp 49)),some (48,false)⟩,
 .op 5 ⟨some 51,(.fieldAddr 0 (.tmp 50)),some (48,false)⟩,
 .op 6 ⟨some 52,(.fieldAddr 3 (.tmp 51)),some (48,false)⟩,
 .op 7 ⟨some 53,(.load1 (.tmp 52)),some (48,false)⟩,
 .op 8 ⟨some 54,(.move (.tmp 8)),some (48,false)⟩,
 .op 9 ⟨some 55,(.indexAddrS 7 (.tmp 53) (.tmp 54)),some (48,false)⟩,
 .op 10 ⟨some 56,(.fieldAddr 3 (.tmp 55)),some (48,false)⟩,
 .op 11 ⟨some 57,(.load1 (.tmp 56)),some (48,false)⟩,
 .op 12 ⟨some 58,(.fieldAddr 3 (.tmp 6)),some (48,false)⟩,
 .op 13 ⟨some 59,(.load1 (.tmp 58)),some (48,false)⟩,
 .op 14 ⟨some 60,(.fieldAddr 3 (.tmp 7)),some (48,false)⟩,
 .op 15 ⟨some 61,(.load1 (.tmp 60)),some (48,false)⟩,
 .op 16 ⟨some 62,(.bin .add .prim (.tmp 59) (.tmp 61)),some (48,false)⟩,
 .op 17 ⟨some 63,(.bin .gtr .prim (.tmp 57) (.tmp 62)),some (48,false)⟩,
 .op 18 ⟨some 64,(.pick (.tmp 48) (.con (.bool true)) (.tmp 63)),none⟩])
 (.cond (.tmp 64)
 (.region [⟨some 65,(.move (.tmp 0)),none⟩,
 ⟨some 66,(.fieldAddr 0 (.tmp 6)),none⟩,
 ⟨some 67,(.load1 (.tmp 66)),none⟩,
 ⟨some 68,(.fieldAddr 1 (.tmp 7)),none⟩,
 ⟨some 69,(.load1 (.tmp 68)),none⟩,
 ⟨some 70,(.fieldAddr 2 (.tmp 6)),none⟩,
 ⟨some 71,(.load1 (.tmp 70)),none⟩,
 ⟨some 72,(.fieldAddr 3 (.tmp 6)),none⟩,
 ⟨some 73,(.load1 (.tmp 72)),none⟩,
 ⟨some 74,(.fieldAddr 3 (.tmp 7)),none⟩,
 ⟨some 75,(.load1 (.tmp 74)),none⟩,
 ⟨some 76,(.bin .add .prim (.tmp 73) (.tmp 75)),none⟩,
 ⟨some 77,(.move (.tmp 1)),none⟩,
 ⟨some 78,(.move (.tmp 2)),none⟩,
 ⟨some 79,(.build [(.int .i64 0),(.int .i64 0),(.int .i64 0),(.int .i64 0),(.int .i64 0),(.int .i64 0),(.int .i64 0)] [(0,1,(.tmp 67)),(1,1,(.tmp 69)),(2,1,(.tmp 71)),(3,1,(.tmp 76)),(4,1,(.con (.int .i64 (-1)))),(5,1,(.tmp 77)),(6,1,(.tmp 78))]),none⟩,
 ⟨some 80,(.call 56 [(.tmp 65),(.tmp 79)]),none⟩])
 .skip)))))⟩
theorem F66_ok : cfn tab F66.body Tryz.f66 = some F66 := by kernel_rfl

/- slices.Clone[[]int,int] -/
def F67 : AFn := ⟨8,[.tmp 2],
 (.seq (.region [⟨some 2,(.move (.con .nilSlice)),none⟩])
 (.seq (.seq (.region [⟨some 3,(.move (.tmp 0)),none⟩,
 ⟨some 4,(.bin .eql .nilS (.tmp 3) (.con .nilSlice)),none⟩])
 (.cond (.tmp 4)
 (.seq (.region [⟨some 2,(.move (.con .nilSlice)),none⟩])
 .ret)
 .skip))
 (.seq (.region [⟨some 5,(.buildSlice [] 0 []),none⟩,
 ⟨some 6,(.move (.tmp 0)),none⟩,
 ⟨some 7,(.append 1 8 (.tmp 5) (.tmp 6)),none⟩,
 ⟨some 2,(.move (.tmp 7)),none⟩])
 .ret)))⟩
theorem F67_ok : cfn tab F67.body Tryz.f67 = some F67 := by kernel_rfl

/- (*milestone/milestoneref2.Adj).Modes -/
def F68 : AFn := ⟨55,[.tmp 4],
 (.seq (.region [⟨some 4,(.move (.con (.int .i64 0))),none⟩])
 (.seq (.region [⟨some 5,(.move (.con (.int .i64 0))),none⟩])
 (.seq (.seq (.region [⟨some 6,(.move (.con (.int .i64 0))),none⟩])
 (.join [false,false,false,false,true,true] (.block 0 (.loop [true,true,false,false,false,true,true] [false,false,false,false,true,true]
 (.seq (.seq (.region [⟨some 7,(.move (.tmp 6)),none⟩,
 ⟨some 8,(.move (.tmp 0)),none⟩,
 ⟨some 9,(.nilCheck (.tmp 8)),none⟩,
 ⟨some 10,(.fieldAddr 0 (.tmp 9)),none⟩,
 ⟨some 11,(.fieldAddr 1 (.tmp 10)),none⟩,
 ⟨some 12,(.load1 (.tmp 11)),none⟩,
 ⟨some 13,(.lenS (.tmp 12)),none⟩,
 ⟨some 14,(.bin .lss .prim (.tmp 7) (.tmp 13)),none⟩])
 (.cond (.tmp 14)
 .skip
 (.exit 0)))
 (.seq (.block 1 (.seq (.region [⟨some 17,(.move (.tmp 0)),none⟩,
 ⟨some 18,(.nilCheck (.tmp 17)),none⟩,
 ⟨some 19,(.fieldAddr 0 (.tmp 18)),none⟩,
 ⟨some 20,(.fieldAddr 1 (.tmp 19)),none⟩,
 ⟨some 21,(.load1 (.tmp 20)),none⟩,
 ⟨some 22,(.move (.tmp 6)),none⟩,
 ⟨some 23,(.indexAddrS 4 (.tmp 21) (.tmp 22)),none⟩,
 ⟨some 24,(.fieldAddr 0 (.tmp 23)),none⟩,
 ⟨some 25,(.load1 (.tmp 24)),none⟩,
 ⟨some 26,(.move (.tmp 1)),none⟩,
 ⟨some 27,(.bin .eql .prim (.tmp 25) (.tmp 26)),none⟩,
 ⟨some 28,(.move (.tmp 27)),none⟩,
 ⟨some 29,(.move (.tmp 0)),some (28,false)⟩,
 ⟨some 30,(.nilCheck (.tmp 29)),some (28,false)⟩,
 ⟨some 31,(.fieldAddr 0 (.tmp 30)),some (28,false)⟩,
 ⟨some 32,(.fieldAddr 1 (.tmp 31)),some (28,false)⟩,
 ⟨some 33,(.load1 (.tmp 32)),some (28,false)⟩,
 ⟨some 34,(.move (.tmp 6)),some (28,false)⟩,
 ⟨some 35,(.indexAddrS 4 (.tmp 33) (.tmp 34)),some (28,false)⟩,
 ⟨some 36,(.fieldAddr 1 (.tmp 35)),some (28,false)⟩,
 ⟨some 37,(.load1 (.tmp 36)),some (28,false)⟩,
 ⟨some 38,(.move (.tmp 1)),some (28,false)⟩,
 ⟨some 39,(.bin .eql .prim (.tmp 37) (.tmp 38)),some (28,false)⟩,
 ⟨some 40,(.pick (.tmp 28) (.con (.bool true)) (.tmp 39)),none⟩])
 (.cond (.tmp 40)
 (.region [⟨some 41,(.move (.tmp 5)),none⟩,
 ⟨some 42,(.move (.tmp 0)),none⟩,
 ⟨some 43,(.nilCheck (.tmp 42)),none⟩,
 ⟨some 44,(.fieldAddr 0 (.tmp 43)),none⟩,
 ⟨some 45,(.fieldAddr 1 (.tmp 44)),none⟩,
 ⟨some 46,(.load1 (.tmp 45)),none⟩,
 ⟨some 47,(.move (.tmp 6)),none⟩,
 ⟨some 48,(.indexAddrS 4 (.tmp 46) (.tmp 47)),none⟩,
 ⟨some 49,(.fieldAddr 2 (.tmp 48)),none⟩,
 ⟨some 50,(.load1 (.tmp 49)),none⟩,
 ⟨some 51,(.toInt .u64 (.tmp 50)),none⟩,
 ⟨some 52,(.bin .shl .prim (.con (.int .i64 1)) (.tmp 51)),none⟩,
 ⟨some 53,(.bin .or .prim (.tmp 41) (.tmp 52)),none⟩,
 ⟨some 5,(.move (.tmp 53)),none⟩])
 .skip)))
 (.region [⟨some 15,(.move (.tmp 6)),none⟩,
 ⟨some 16,(.bin .add .prim (.tmp 15) (.con (.int .i64 1))),none⟩,
 ⟨some 6,(.move (.tmp 16)),none⟩])))))))
 (.seq (.region [⟨some 54,(.move (.tmp 5)),none⟩,
 ⟨some 4,(.move (.tmp 54)),none⟩])
 .ret))))⟩
theorem F68_ok : cfn tab F68.body Tryz.f68 = some F68 := by kernel_rfl

/- (milestone/net.checker).vertex -/
def F69 : AFn := ⟨13,[.tmp 4],
 (.seq (.region [⟨some 2,(.box 1 (.tmp 0)),none⟩,
 ⟨some 4,(.move (.con (.bool false))),none⟩])
 (.seq (.region [⟨some 5,(.move (.tmp 1)),none⟩,
 ⟨some 6,(.bin .geq .prim (.tmp 5) (.con (.int .i64 0))),none⟩,
 ⟨some 7,(.move (.tmp 6)),none⟩,
 ⟨some 8,(.move (.tmp 1)),some (7,true)⟩,
 ⟨some 9,(.fieldAddr 0 (.tmp 2)),some (7,true)⟩,
 ⟨some 10,(.load1 (.tmp 9)),some (7,true)⟩,
 ⟨some 11,(.bin .lss .prim (.tmp 8) (.tmp 10)),some (7,true)⟩,
 ⟨some 12,(.pick (.tmp 7) (.tmp 11) (.con (.bool false))),none⟩,
 ⟨some 4,(.move (.tmp 12)),none⟩])
 .ret))⟩
theorem F69_ok : cfn tab F69.body Tryz.f69 = some F69 := by kernel_rfl

/- cmp.Or[int] -/
def F72 : AFn := ⟨18,[.tmp 2],
 (.seq (.region [⟨some 2,(.move (.con (.int .i64 0))),none⟩])
 (.seq (.region [⟨some 3,(.move (.con (.int .i64 0))),none⟩])
 (.seq (.seq (.region [⟨some 6,(.move (.tmp 0)),none⟩,
 ⟨some 7,(.lenS (.tmp 6)),none⟩,
 ⟨some 8,(.move (.con (.int .i64 0))),none⟩])
 (.join [false,false,true,true] (.block 0 (.loop [false,false,false,true,false,false,true,true,true] [false,false,true,true]
 (.seq (.region [⟨some 9,(.bin .lss .prim (.tmp 8) (.tmp 7)),none⟩])
 (.seq (.cond (.tmp 9)
 .skip
 (.exit 0))
 (.seq (.block 1 (.seq (.region [⟨some 10,(.indexAddrS 1 (.tmp 6) (.tmp 8)),none⟩,
 ⟨some 11,(.load1 (.tmp 10)),none⟩,
 ⟨some 5,(.move (.tmp 11)),none⟩])
 (.seq (.region [⟨some 12,(.move (.tmp 5)),none⟩,
 ⟨some 13,(.move (.tmp 3)),none⟩,
 ⟨some 14,(.bin .neq .prim (.tmp 12) (.tmp 13)),none⟩])
 (.cond (.tmp 14)
 (.seq (.region [⟨some 15,(.move (.tmp 5)),none⟩,
 ⟨some 2,(.move (.tmp 15)),none⟩])
 .ret)
 .skip))))
 (.region [⟨some 16,(.bin .add .prim (.tmp 8) (.con (.int .i64 1))),none⟩,
 ⟨some 8,(.move (.tmp 16)),none⟩]))))))))
 (.seq (.region [⟨some 17,(.move (.tmp 3)),none⟩,
 ⟨some 2,(.move (.tmp 17)),none⟩])
 .ret))))⟩
theorem F72_ok : cfn tab F72.body Tryz.f72 = some F72 := by kernel_rfl

/- cmp.Compare[int] -/
def F73 : AFn := ⟨20,[.tmp 4],
 (.seq (.region [⟨some 4,(.move (.con (.int .i64 0))),none⟩])
 (.seq (.region [⟨some 7,(.move (.tmp 0)),none⟩,
 ⟨some 8,(.call 91 [(.tmp 7)]),none⟩,
 ⟨some 5,(.move (.tmp 8)),none⟩])
 (.seq (.region [⟨some 9,(.move (.tmp 1)),none⟩,
 ⟨some 10,(.call 91 [(.tmp 9)]),none⟩,
 ⟨some 6,(.move (.tmp 10)),none⟩])
 (.seq (.seq (.region [⟨some 11,(.move (.tmp 5)),none⟩])
 (.cond (.tmp 11)
 (.seq (.seq (.region [⟨some 12,(.move (.tmp 6)),none⟩])
 (.cond (.tmp 12)
 (.seq (.region [⟨some 4,(.move (.con (.int .i64 0))),none⟩])
 .ret)
 .skip))
 (.seq (.region [⟨some 4,(.move (.con (.int .i64 (-1)))),none⟩])
 .ret))
 .skip))
 (.seq (.seq (.region [⟨some 13,(.move (.tmp 6)),none⟩])
 (.cond (.tmp 13)
 (.seq (.region [⟨some 4,(.move (.con (.int .i64 1))),none⟩])
 .ret)
 .skip))
 (.seq (.seq (.region [⟨some 14,(.move (.tmp 0)),none⟩,
 ⟨some 15,(.move (.tmp 1)),none⟩,
 ⟨some 16,(.bin .lss .prim (.tmp 14) (.tmp 15)),none⟩])
 (.cond (.tmp 16)
 (.seq (.region [⟨some 4,(.move (.con (.int .i64 (-1)))),none⟩])
 .ret)
 .skip))
 (.seq (.seq (.region [⟨some 17,(.move (.tmp 0)),none⟩,
 ⟨some 18,(.move (.tmp 1)),none⟩,
 ⟨some 19,(.bin .gtr .prim (.tmp 17) (.tmp 18)),none⟩])
 (.cond (.tmp 19)
 (.seq (.region [⟨some 4,(.move (.con (.int .i64 1))),none⟩])
 .ret)
 .skip))
 (.seq (.region [⟨some 4,(.move (.con (.int .i64 0))),none⟩])
 .ret))))))))⟩
theorem F73_ok : cfn tab F73.body Tryz.f73 = some F73 := by kernel_rfl

/- (*milestone/adj.Adj).is -/
def F74 : AFn := ⟨16,[.tmp 4],
 (.seq (.region [⟨some 4,(.move (.con (.bool false))),none⟩])
 (.seq (.region [⟨some 5,(.move (.tmp 1)),none⟩,
 ⟨some 6,(.bin .geq .prim (.tmp 5) (.con (.int .i64 0))),none⟩,
 ⟨some 7,(.move (.tmp 6)),none⟩,
 ⟨some 8,(.move (.tmp 1)),some (7,true)⟩,
 ⟨some 9,(.move (.tmp 0)),some (7,true)⟩,
 ⟨some 10,(.nilCheck (.tmp 9)),some (7,true)⟩,
 ⟨some 11,(.fieldAddr 2 (.tmp 10)),some (7,true)⟩,
 ⟨some 12,(.load1 (.tmp 11)),some (7,true)⟩,
 ⟨some 13,(.lenS (.tmp 12)),some (7,true)⟩,
 ⟨some 14,(.bin .lss .prim (.tmp 8) (.tmp 13)),some (7,true)⟩,
 ⟨some 15,(.pick (.tmp 7) (.tmp 14) (.con (.bool false))),none⟩,
 ⟨some 4,(.move (.tmp 15)),none⟩])
 .ret))⟩
theorem F74_ok : cfn tab F74.body Tryz.f74 = some F74 := by kernel_rfl

/- (*milestone/adj.ends).add -/
def F75 : AFn := ⟨26,[],
 (.dregion [[],[],[],[2],[2,3],[3,2,4],[],[6],[6,7,4,2,3,5],[],[9],[9,10],[10,9,11],[],[13],[5,3,2,4,7,6,8,13,14,11,9,10,12],[14,13,15,11,9,10,12,8,7,6,5,4,3,2,0],[0,2,3,4,5,6,7,8,12,10,9,11,15,13,14,16],[16,14,13,15,11,9,10,12,8,7,6,5,4,3,2,0,17],[18,17,16,15,14,13,12,11,10,9,8,7,6,5,4,3,2,0,1],[1,0,2,3,4,5,6,7,8,9,10,11,12,13,14,15,16,17,18,19],[19,18,17,16,15,14,13,12,11,10,9,8,7,6,5,4,3,2,0,1,20]] [.op 0 ⟨some 6,(.move (.tmp 0)),none⟩,
 .op 1 ⟨some 7,(.move (.tmp 0)),none⟩,
 .op 2 ⟨some 8,(.move (.tmp 0)),none⟩,
 .op 3 ⟨some 9,(.nilCheck (.tmp 8)),none⟩,
 .op 4 ⟨some 10,(.fieldAddr 0 (.tmp 9)),none⟩,
 .op 5 ⟨some 11,(.load1 (.tmp 10)),none⟩,
 .op 6 ⟨some 12,(.move (.tmp 1)),none⟩,
 .op 7 ⟨some 13,(.buildSlice [(.int .i64 0)] 1 [(0,1,(.tmp 12))]),none⟩,
 .op 9 ⟨some 15,(.move (.tmp 0)),none⟩,
 .op 10 ⟨some 16,(.nilCheck (.tmp 15)),none⟩,
 .op 11 ⟨some 17,(.fieldAddr 1 (.tmp 16)),none⟩,
 .op 12 ⟨some 18,(.load1 (.tmp 17)),none⟩,
 .op 13 ⟨some 19,(.move (.tmp 2)),none⟩,
 .op 14 ⟨some 20,(.buildSlice [(.int .i64 0)] 1 [(0,1,(.tmp 19))]),none⟩,
 .op 8 ⟨some 14,(.append 1 8 (.tmp 11) (.tmp 13)),none⟩,
 .re 12 ⟨some 18,(.load1 (.tmp 17)),none⟩,
 .op 15 ⟨some 21,(.append 1 8 (.tmp 18) (.tmp 20)),none⟩,
 .op 16 ⟨some 22,(.nilCheck (.tmp 6)),none⟩,
 .op 17 ⟨some 23,(.fieldAddr 0 (.tmp 22)),none⟩,
 .op 18 ⟨none,(.store 1 (.tmp 23) (.tmp 14)),none⟩,
 .op 19 ⟨some 24,(.nilCheck (.tmp 7)),none⟩,
 .op 20 ⟨some 25,(.fieldAddr 1 (.tmp 24)),none⟩,
 .op 21 ⟨none,(.store 1 (.tmp 25) (.tmp 21)),none⟩])⟩
theorem F75_ok : cfn tab F75.body Tryz.f75 = some F75 := by kernel_rfl

/- (milestone/adj.ends).list -/
def F76 : AFn := ⟨13,[.tmp 2],
 (.seq (.region [⟨some 1,(.box 2 (.tmp 0)),none⟩,
 ⟨some 2,(.move (.con .nilSlice)),none⟩])
 (.seq (.region [⟨some 4,(.fieldAddr 0 (.tmp 1)),none⟩,
 ⟨some 5,(.load1 (.tmp 4)),none⟩,
 ⟨some 6,(.lenS (.tmp 5)),none⟩,
 ⟨some 3,(.move (.tmp 6)),none⟩])
 (.seq (.region [⟨some 7,(.fieldAddr 0 (.tmp 1)),none⟩,
 ⟨some 8,(.load1 (.tmp 7)),none⟩,
 ⟨some 9,(.move (.tmp 3)),none⟩,
 ⟨some 10,(.move (.tmp 3)),none⟩,
 ⟨some 11,(.slice 1 (.tmp 8) none (some (.tmp 9)) (some (.tmp 10))),none⟩,
 ⟨some 12,(.call 67 [(.tmp 11)]),none⟩,
 ⟨some 2,(.move (.tmp 12)),none⟩])
 .ret)))⟩
theorem F76_ok : cfn tab F76.body Tryz.f76 = some F76 := by kernel_rfl

/- (*milestone/adj.Adj).side -/
def F77 : AFn := ⟨16,[.cell 2 true 6],
 (.seq (.region [⟨some 6,(.alloc [.nilSlice,.nilSlice]),none⟩])
 (.seq (.seq (.region [⟨some 7,(.move (.tmp 0)),none⟩,
 ⟨some 8,(.move (.tmp 2)),none⟩,
 ⟨some 9,(.call 74 [(.tmp 7),(.tmp 8)]),none⟩,
 ⟨some 10,(.un .not (.tmp 9)),none⟩])
 (.cond (.tmp 10)
 (.seq (.region [⟨some 11,(.build [.nilSlice,.nilSlice] []),none⟩,
 ⟨none,(.store 2 (.tmp 6) (.tmp 11)),none⟩])
 .ret)
 .skip))
 (.seq (.region [⟨some 12,(.move (.tmp 1)),none⟩,
 ⟨some 13,(.move (.tmp 2)),none⟩,
 ⟨some 14,(.indexAddrS 2 (.tmp 12) (.tmp 13)),none⟩,
 ⟨some 15,(.loadN 2 (.tmp 14)),none⟩,
 ⟨none,(.store 2 (.tmp 6) (.tmp 15)),none⟩])
 .ret)))⟩
theorem F77_ok : cfn tab F77.body Tryz.f77 = some F77 := by kernel_rfl

/- (*milestone/adj.Adj).Modes -/
def F78 : AFn := ⟨47,[.tmp 4],
 (.seq (.region [⟨some 4,(.move (.con (.int .i64 0))),none⟩])
 (.seq (.region [⟨some 5,(.move (.con (.int .i64 0))),none⟩])
 (.seq (.seq (.dregion [[],[0],[0,1],[1,0,2],[],[4],[4,5],[5,4,6],[6,4,5,7,2,0,1,3],[]] [.op 0 ⟨some 10,(.move (.tmp 0)),none⟩,
 .op 1 ⟨some 11,(.nilCheck (.tmp 10)),none⟩,
 .op 2 ⟨some 12,(.fieldAddr 2 (.tmp 11)),none⟩,
 .op 3 ⟨some 13,(.load1 (.tmp 12)),none⟩,
 .op 4 ⟨some 14,(.move (.tmp 0)),none⟩,
 .op 5 ⟨some 15,(.nilCheck (.tmp 14)),none⟩,
 .op 6 ⟨some 16,(.fieldAddr 3 (.tmp 15)),none⟩,
 .op 7 ⟨some 17,(.load1 (.tmp 16)),none⟩,
 .op 8 ⟨some 18,(.build [.nilSlice,.nilSlice] [(0,1,(.tmp 13)),(1,1,(.tmp 17))]),none⟩,
 .op 9 ⟨some 19,(.move (.con (.int .i64 0))),none⟩])
 (.join [false,false,false,false,true,true] (.block 0 (.loop [true,true,false,false,false,true,false,false,false,false,false,false,false,false,false,false,false,false,true,true] [false,false,false,false,true,true]
 (.seq (.region [⟨some 20,(.bin .lss .prim (.tmp 19) (.con (.int .i64 2))),none⟩])
 (.seq (.cond (.tmp 20)
 .skip
 (.exit 0))
 (.seq (.block 1 (.seq (.region [⟨some 21,(.indexA 2 1 false (.tmp 18) (.tmp 19)),none⟩,
 ⟨some 7,(.move (.tmp 21)),none⟩])
 (.seq (.region [⟨some 22,(.move (.tmp 0)),none⟩,
 ⟨some 23,(.move (.tmp 7)),none⟩,
 ⟨some 24,(.move (.tmp 1)),none⟩,
 ⟨some 25,(.call 77 [(.tmp 22),(.tmp 23),(.tmp 24)]),none⟩,
 ⟨some 26,(.field 0 1 false (.tmp 25)),none⟩,
 ⟨some 27,(.lenS (.tmp 26)),none⟩,
 ⟨some 28,(.move (.con (.int .i64 0))),none⟩])
 (.block 2 (.loop [true,true,false,false,false,true,false,false,false,false,false,false,false,false,false,false,false,false,true,true,false,false,false,false,false,false,true,true,true] [true,true,false,false,true,true,false,false,false,false,false,false,false,false,false,false,false,false,true,true]
 (.seq (.region [⟨some 29,(.bin .lss .prim (.tmp 28) (.tmp 27)),none⟩])
 (.seq (.cond (.tmp 29)
 .skip
 (.exit 2))
 (.seq (.block 3 (.seq (.region [⟨some 30,(.indexAddrS 1 (.tmp 26) (.tmp 28)),none⟩,
 ⟨some 31,(.load1 (.tmp 30)),none⟩,
 ⟨some 9,(.move (.tmp 31)),none⟩])
 (.region [⟨some 32,(.move (.tmp 5)),none⟩,
 ⟨some 33,(.move (.tmp 0)),none⟩,
 ⟨some 34,(.nilCheck (.tmp 33)),none⟩,
 ⟨some 35,(.fieldAddr 0 (.tmp 34)),none⟩,
 ⟨some 36,(.fieldAddr 1 (.tmp 35)),none⟩,
 ⟨some 37,(.load1 (.tmp 36)),none⟩,
 ⟨some 38,(.move (.tmp 9)),none⟩,
 ⟨some 39,(.indexAddrS 4 (.tmp 37) (.tmp 38)),none⟩,
 ⟨some 40,(.fieldAddr 2 (.tmp 39)),none⟩,
 ⟨some 41,(.load1 (.tmp 40)),none⟩,
 ⟨some 42,(.bin .shl .prim (.con (.int .i64 1)) (.tmp 41)),none⟩,
 ⟨some 43,(.bin .or .prim (.tmp 32) (.tmp 42)),none⟩,
 ⟨some 5,(.move (.tmp 43)),none⟩])))
 (.region [⟨some 44,(.bin .add .prim (.tmp 28) (.con (.int .i64 1))),none⟩,
 ⟨some 28,(.move (.tmp 44)),none⟩])))))))))
 (.region [⟨some 45,(.bin .add .prim (.tmp 19) (.con (.int .i64 1))),none⟩,
 ⟨some 19,(.move (.tmp 45)),none⟩]))))))))
 (.seq (.region [⟨some 46,(.move (.tmp 5)),none⟩,
 ⟨some 4,(.move (.tmp 46)),none⟩])
 .ret))))⟩
theorem F78_ok : cfn tab F78.body Tryz.f78 = some F78 := by kernel_rfl

/- math/bits.OnesCount -/
def F79 : AFn := ⟨8,[.tmp 2],
 (.seq (.region [⟨some 2,(.move (.con (.int .i64 0))),none⟩])
 (.seq (.cond (.con (.bool false))
 (.seq (.region [⟨some 3,(.move (.tmp 0)),none⟩,
 ⟨some 4,(.toInt .u32 (.tmp 3)),none⟩,
 ⟨some 5,(.call 92 [(.tmp 4)]),none⟩,
 ⟨some 2,(.move (.tmp 5)),none⟩])
 .ret)
 .skip)
 (.seq (.region [⟨some 6,(.move (.tmp 0)),none⟩,
 ⟨some 7,(.call 93 [(.tmp 6)]),none⟩,
 ⟨some 2,(.move (.tmp 7)),none⟩])
 .ret)))⟩
theorem F79_ok : cfn tab F79.body Tryz.f79 = some F79 := by kernel_rfl

/- cmp.isNaN[int] -/
def F91 : AFn := ⟨6,[.tmp 2],
 (.seq (.region [⟨some 2,(.move (.con (.bool false))),none⟩])
 (.seq (.region [⟨some 3,(.move (.tmp 0)),none⟩,
 ⟨some 4,(.move (.tmp 0)),none⟩,
 ⟨some 5,(.bin .neq .prim (.tmp 3) (.tmp 4)),none⟩,
 ⟨some 2,(.move (.tmp 5)),none⟩])
 .ret))⟩
theorem F91_ok : cfn tab F91.body Tryz.f91 = some F91 := by kernel_rfl

/- math/bits.OnesCount32 -/
def F92 : AFn := ⟨21,[.tmp 2],
 (.seq (.region [⟨some 2,(.move (.con (.int .i64 0))),none⟩])
 (.seq (.dregion [[],[0],[0,1],[],[3],[3,4],[4,3,5],[5,3,4,6,1,0,2],[],[8],[8,9],[9,8,10],[10,8,9,11,2,0,1,6,4,3,5,7],[],[13],[13,14],[14,13,15,7,5,3,4,6,1,0,2,11,9,8,10,12],[12,10,8,9,11,2,0,1,6,4,3,5,7,15,13,14,16],[16,14,13,15,7,5,3,4,6,1,0,2,11,9,8,10,12,17]] [.op 0 ⟨some 3,(.move (.tmp 0)),none⟩,
 .op 1 ⟨some 4,(.bin .shr .prim (.tmp 3) (.con (.int .u64 24))),none⟩,
 .op 2 ⟨some 5,(.indexStr (.con (.str ⟨#[0,1,1,2,1,2,2,3,1,2,2,3,2,3,3,4,1,2,2,3,2,3,3,4,2,3,3,4,3,4,4,5,1,2,2,3,2,3,3,4,2,3,3,4,3,4,4,5,2,3,3,4,3,4,4,5,3,4,4,5,4,5,5,6,1,2,2,3,2,3,3,4,2,3,3,4,3,4,4,5,2,3,3,4,3,4,4,5,3,4,4,5,4,5,5,6,2,3,3,4,3,4,4,5,3,4,4,5,4,5,5,6,3,4,4,5,4,5,5,6,4,5,5,6,5,6,6,7,1,2,2,3,2,3,3,4,2,3,3,4,3,4,4,5,2,3,3,4,3,4,4,5,3,4,4,5,4,5,5,6,2,3,3,4,3,4,4,5,3,4,4,5,4,5,5,6,3,4,4,5,4,5,5,6,4,5,5,6,5,6,6,7,2,3,3,4,3,4,4,5,3,4,4,5,4,5,5,6,3,4,4,5,4,5,5,6,4,5,5,6,5,6,6,7,3,4,4,5,4,5,5,6,4,5,5,6,5,6,6,7,4,5,5,6,5,6,6,7,5,6,6,7,6,7,7,8]⟩)) (.tmp 4)),none⟩,
 .op 3 ⟨some 6,(.move (.tmp 0)),none⟩,
 .op 4 ⟨some 7,(.bin .shr .prim (.tmp 6) (.con (.int .u64 16))),none⟩,
 .op 5 ⟨some 8,(.bin .and .prim (.tmp 7) (.con (.int .u32 255))),none⟩,
 .op 6 ⟨some 9,(.indexStr (.con (.str ⟨#[0,1,1,2,1,2,2,3,1,2,2,3,2,3,3,4,1,2,2,3,2,3,3,4,2,3,3,4,3,4,4,5,1,2,2,3,2,3,3,4,2,3,3,4,3,4,4,5,2,3,3,4,3,4,4,5,3,4,4,5,4,5,5,6,1,2,2,3,2,3,3,4,2,3,3,4,3,4,4,5,2,3,3,4,3,4,4,5,3,4,4,5,4,5,5,6,2,3,3,4,3,4,4,5,3,4,4,5,4,5,5,6,3,4,4,5,4,5,5,6,4,5,5,6,5,6,6,7,1,2,2,3,2,3,3,4,2,3,3,4,3,4,4,5,2,3,3,4,3,4,4,5,3,4,4,5,4,5,5,6,2,3,3,4,3,4,4,5,3,4,4,5,4,5,5,6,3,4,4,5,4,5,5,6,4,5,5,6,5,6,6,7,2,3,3,4,3,4,4,5,3,4,4,5,4,5,5,6,3,4,4,5,4,5,5,6,4,5,5,6,5,6,6,7,3,4,4,5,4,5,5,6,4,5,5,6,5,6,6,7,4,5,5,6,5,6,6,7,5,6,6,7,6,7,7,8]⟩)) (.tmp 8)),none⟩,
 .op 7 ⟨some 10,(.bin .add .prim (.tmp 5) (.tmp 9)),none⟩,
 .op 8 ⟨some 11,(.move (.tmp 0)),none⟩,
 .op 9 ⟨some 12,(.bin .shr .prim (.tmp 11) (.con (.int .u64 8))),none⟩,
 .op 10 ⟨some 13,(.bin .and .prim (.tmp 12) (.con (.int .u32 255))),none⟩,
 .op 11 ⟨some 14,(.indexStr (.con (.str ⟨#[0,1,1,2,1,2,2,3,1,2,2,3,2,3,3,4,1,2,2,3,2,3,3,4,2,3,3,4,3,4,4,5,1,2,2,3,2,3,3,4,2,3,3,4,3,4,4,5,2,3,3,4,3,4,4,5,3,4,4,5,4,5,5,6,1,2,2,3,2,3,3,4,2,3,3,4,3,4,4,5,2,3,3,4,3,4,4,5,3,4,4,5,4,5,5,6,2,3,3,4,3,4,4,5,3,4,4,5,4,5,5,6,3,4,4,5,4,5,5,6,4,5,5,6,5,6,6,7,1,2,2,3,2,3,3,4,2,3,3,4,3,4,4,5,2,3,3,4,3,4,4,5,3,4,4,5,4,5,5,6,2,3,3,4,3,4,4,5,3,4,4,5,4,5,5,6,3,4,4,5,4,5,5,6,4,5,5,6,5,6,6,7,2,3,3,4,3,4,4,5,3,4,4,5,4,5,5,6,3,4,4,5,4,5,5,6,4,5,5,6,5,6,6,7,3,4,4,5,4,5,5,6,4,5,5,6,5,6,6,7,4,5,5,6,5,6,6,7,5,6,6,7,6,7,7,8]⟩)) (.tmp 13)),none⟩,
 .op 12 ⟨some 15,(.bin .add .prim (.tmp 10) (.tmp 14)),none⟩,
 .op 13 ⟨some 16,(.move (.tmp 0)),none⟩,
 .op 14 ⟨some 17,(.bin .and .prim (.tmp 16) (.con (.int .u32 255))),none⟩,
 .op 15 ⟨some 18,(.indexStr (.con (.str ⟨#[0,1,1,2,1,2,2,3,1,2,2,3,2,3,3,4,1,2,2,3,2,3,3,4,2,3,3,4,3,4,4,5,1,2,2,3,2,3,3,4,2,3,3,4,3,4,4,5,2,3,3,4,3,4,4,5,3,4,4,5,4,5,5,6,1,2,2,3,2,3,3,4,2,3,3,4,3,4,4,5,2,3,3,4,3,4,4,5,3,4,4,5,4,5,5,6,2,3,3,4,3,4,4,5,3,4,4,5,4,5,5,6,3,4,4,5,4,5,5,6,4,5,5,6,5,6,6,7,1,2,2,3,2,3,3,4,2,3,3,4,3,4,4,5,2,3,3,4,3,4,4,5,3,4,4,5,4,5,5,6,2,3,3,4,3,4,4,5,3,4,4,5,4,5,5,6,3,4,4,5,4,5,5,6,4,5,5,6,5,6,6,7,2,3,3,4,3,4,4,5,3,4,4,5,4,5,5,6,3,4,4,5,4,5,5,6,4,5,5,6,5,6,6,7,3,4,4,5,4,5,5,6,4,5,5,6,5,6,6,7,4,5,5,6,5,6,6,7,5,6,6,7,6,7,7,8]⟩)) (.tmp 17)),none⟩,
 .op 16 ⟨some 19,(.bin .add .prim (.tmp 15) (.tmp 18)),none⟩,
 .op 17 ⟨some 20,(.toInt .i64 (.tmp 19)),none⟩,
 .op 18 ⟨some 2,(.move (.tmp 20)),none⟩])
 .ret))⟩
theorem F92_ok : cfn tab F92.body Tryz.f92 = some F92 := by kernel_rfl

/- math/bits.OnesCount64 -/
def F93 : AFn := ⟨35,[.tmp 2],
 (.seq (.region [⟨some 2,(.move (.con (.int .i64 0))),none⟩])
 (.seq (.region [⟨some 3,(.move (.tmp 0)),none⟩,
 ⟨some 4,(.bin .shr .prim (.tmp 3) (.con (.int .u64 1))),none⟩,
 ⟨some 5,(.bin .and .prim (.tmp 4) (.con (.int .u64 6148914691236517205))),none⟩,
 ⟨some 6,(.move (.tmp 0)),none⟩,
 ⟨some 7,(.bin .and .prim (.tmp 6) (.con (.int .u64 6148914691236517205))),none⟩,
 ⟨some 8,(.bin .add .prim (.tmp 5) (.tmp 7)),none⟩,
 ⟨some 0,(.move (.tmp 8)),none⟩])
 (.seq (.region [⟨some 9,(.move (.tmp 0)),none⟩,
 ⟨some 10,(.bin .shr .prim (.tmp 9) (.con (.int .u64 2))),none⟩,
 ⟨some 11,(.bin .and .prim (.tmp 10) (.con (.int .u64 3689348814741910323))),none⟩,
 ⟨some 12,(.move (.tmp 0)),none⟩,
 ⟨some 13,(.bin .and .prim (.tmp 12) (.con (.int .u64 3689348814741910323))),none⟩,
 ⟨some 14,(.bin .add .prim (.tmp 11) (.tmp 13)),none⟩,
 ⟨some 0,(.move (.tmp 14)),none⟩])
 (.seq (.region [⟨some 15,(.move (.tmp 0)),none⟩,
 ⟨some 16,(.bin .shr .prim (.tmp 15) (.con (.int .u64 4))),none⟩,
 ⟨some 17,(.move (.tmp 0)),none⟩,
 ⟨some 18,(.bin .add .prim (.tmp 16) (.tmp 17)),none⟩,
 ⟨some 19,(.bin .and .prim (.tmp 18) (.con (.int .u64 1085102592571150095))),none⟩,
 ⟨some 0,(.move (.tmp 19)),none⟩])
 (.seq (.region [⟨some 20,(.move (.tmp 0)),none⟩,
 ⟨some 21,(.move (.tmp 0)),none⟩,
 ⟨some 22,(.bin .shr .prim (.tmp 21) (.con (.int .u64 8))),none⟩,
 ⟨some 23,(.bin .add .prim (.tmp 20) (.tmp 22)),none⟩,
 ⟨some 0,(.move (.tmp 23)),none⟩])
 (.seq (.region [⟨some 24,(.move (.tmp 0)),none⟩,
 ⟨some 25,(.move (.tmp 0)),none⟩,
 ⟨some 26,(.bin .shr .prim (.tmp 25) (.con (.int .u64 16))),none⟩,
 ⟨some 27,(.bin .add .prim (.tmp 24) (.tmp 26)),none⟩,
 ⟨some 0,(.move (.tmp 27)),none⟩])
 (.seq (.region [⟨some 28,(.move (.tmp 0)),none⟩,
 ⟨some 29,(.move (.tmp 0)),none⟩,
 ⟨some 30,(.bin .shr .prim (.tmp 29) (.con (.int .u64 32))),none⟩,
 ⟨some 31,(.bin .add .prim (.tmp 28) (.tmp 30)),none⟩,
 ⟨some 0,(.move (.tmp 31)),none⟩])
 (.seq (.region [⟨some 32,(.move (.tmp 0)),none⟩,
 ⟨some 33,(.toInt .i64 (.tmp 32)),none⟩,
 ⟨some 34,(.bin .and .prim (.tmp 33) (.con (.int .i64 127))),none⟩,
 ⟨some 2,(.move (.tmp 34)),none⟩])
 .ret))))))))⟩
theorem F93_ok : cfn tab F93.body Tryz.f93 = some F93 := by kernel_rfl

end Go.Proofs.YtknhlpmmalcchaaGreat
