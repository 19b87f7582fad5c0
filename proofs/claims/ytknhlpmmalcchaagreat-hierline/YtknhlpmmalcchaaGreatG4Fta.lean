/- Functions of the program as the interpreter takes them (printed by a program). -/
import Derived.Test.YtknhlpmmalcchaaGreatG4Ft
set_option linter.all false
set_option linter.unusedVariables false
set_option linter.unusedSimpArgs false
namespace Go.Proofs.YtknhlpmmalcchaaGreat
open Go Go.VAI Go.Proofs
/- milestone/milestonelaw11.HierLine -/
def F4 : AFn := ⟨113,[.tmp 4],
 (.seq (.region [⟨some 4,(.move (.con (.bool false))),none⟩])
 (.seq (.seq (.region [⟨some 15,(.call 5 []),none⟩,
 ⟨some 16,(.un .not (.tmp 15)),none⟩])
 (.cond (.tmp 16)
 (.seq (.region [⟨some 4,(.move (.con (.bool false))),none⟩])
 .ret)
 .skip))
 (.seq (.region [⟨some 17,(.move (.tmp 0)),none⟩,
 ⟨some 18,(.call 12 [(.tmp 17),(.con (.int .i64 20))]),none⟩,
 ⟨some 19,(.bin .add .prim (.con (.int .i64 2)) (.tmp 18)),none⟩,
 ⟨some 5,(.move (.tmp 19)),none⟩])
 (.seq (.region [⟨some 20,(.move (.tmp 5)),none⟩,
 ⟨some 21,(.build [(.int .i64 0),.nilSlice] [(0,1,(.tmp 20))]),none⟩,
 ⟨some 6,(.alloc [(.int .i64 0),.nilSlice]),none⟩,
 ⟨none,(.store 2 (.tmp 6) (.tmp 21)),none⟩])
 (.seq (.region [⟨some 7,(.move (.con .nilSlice)),none⟩])
 (.seq (.region [⟨some 8,(.move (.con (.int .i64 0))),none⟩])
 (.seq (.seq (.region [⟨some 9,(.move (.con (.int .i64 0))),none⟩])
 (.join [false,false,false,false,true,false,true,true,true] (.block 0 (.loop [false,true,false,false,false,true,true,true,true,true] [false,false,false,false,true,false,true,true,true]
 (.seq (.seq (.region [⟨some 22,(.move (.tmp 9)),none⟩,
 ⟨some 23,(.bin .add .prim (.tmp 22) (.con (.int .i64 1))),none⟩,
 ⟨some 24,(.move (.tmp 5)),none⟩,
 ⟨some 25,(.bin .lss .prim (.tmp 23) (.tmp 24)),none⟩])
 (.cond (.tmp 25)
 .skip
 (.exit 0)))
 (.seq (.block 1 (.seq (.region [⟨some 28,(.move (.tmp 9)),none⟩,
 ⟨some 10,(.move (.tmp 28)),none⟩])
 (.seq (.seq (.region [⟨some 29,(.move (.tmp 9)),none⟩,
 ⟨some 30,(.move (.tmp 1)),none⟩,
 ⟨some 31,(.lenS (.tmp 30)),none⟩,
 ⟨some 32,(.bin .lss .prim (.tmp 29) (.tmp 31)),none⟩])
 (.join [false,true,false,false,true,true,true,true,true,true,true] (.cond (.tmp 32)
 (.region [⟨some 33,(.move (.tmp 1)),none⟩,
 ⟨some 34,(.move (.tmp 9)),none⟩,
 ⟨some 35,(.indexAddrS 1 (.tmp 33) (.tmp 34)),none⟩,
 ⟨some 36,(.load1 (.tmp 35)),none⟩,
 ⟨some 37,(.call 12 [(.tmp 36),(.con (.int .i64 50))]),none⟩,
 ⟨some 10,(.move (.tmp 37)),none⟩])
 .skip)))
 (.seq (.region [⟨some 38,(.fieldAddr 1 (.tmp 6)),none⟩,
 ⟨some 39,(.load1 (.tmp 38)),none⟩,
 ⟨some 40,(.move (.tmp 9)),none⟩,
 ⟨some 41,(.move (.tmp 9)),none⟩,
 ⟨some 42,(.bin .add .prim (.tmp 41) (.con (.int .i64 1))),none⟩,
 ⟨some 43,(.move (.tmp 10)),none⟩,
 ⟨some 44,(.build [(.int .i64 0),(.int .i64 0),(.int .i64 0),(.int .i64 0)] [(0,1,(.tmp 40)),(1,1,(.tmp 42)),(2,1,(.con (.int .i64 1))),(3,1,(.tmp 43))]),none⟩,
 ⟨some 45,(.move (.tmp 9)),none⟩,
 ⟨some 46,(.bin .add .prim (.tmp 45) (.con (.int .i64 1))),none⟩,
 ⟨some 47,(.move (.tmp 9)),none⟩,
 ⟨some 48,(.move (.tmp 10)),none⟩,
 ⟨some 49,(.build [(.int .i64 0),(.int .i64 0),(.int .i64 0),(.int .i64 0)] [(0,1,(.tmp 46)),(1,1,(.tmp 47)),(2,1,(.con (.int .i64 1))),(3,1,(.tmp 48))]),none⟩,
 ⟨some 50,(.buildSlice [(.int .i64 0),(.int .i64 0),(.int .i64 0),(.int .i64 0),(.int .i64 0),(.int .i64 0),(.int .i64 0),(.int .i64 0)] 2 [(0,4,(.tmp 44)),(4,4,(.tmp 49))]),none⟩,
 ⟨some 51,(.append 4 32 (.tmp 39) (.tmp 50)),none⟩,
 ⟨some 52,(.fieldAddr 1 (.tmp 6)),none⟩,
 ⟨none,(.store 1 (.tmp 52) (.tmp 51)),none⟩])
 (.seq (.region [⟨some 53,(.move (.tmp 7)),none⟩,
 ⟨some 54,(.move (.tmp 8)),none⟩,
 ⟨some 55,(.buildSlice [(.int .i64 0)] 1 [(0,1,(.tmp 54))]),none⟩,
 ⟨some 56,(.append 1 8 (.tmp 53) (.tmp 55)),none⟩,
 ⟨some 7,(.move (.tmp 56)),none⟩])
 (.region [⟨some 57,(.move (.tmp 8)),none⟩,
 ⟨some 58,(.move (.tmp 10)),none⟩,
 ⟨some 59,(.bin .add .prim (.tmp 57) (.tmp 58)),none⟩,
 ⟨some 8,(.move (.tmp 59)),none⟩]))))))
 (.region [⟨some 26,(.move (.tmp 9)),none⟩,
 ⟨some 27,(.bin .add .prim (.tmp 26) (.con (.int .i64 1))),none⟩,
 ⟨some 9,(.move (.tmp 27)),none⟩])))))))
 (.seq (.region [⟨some 60,(.move (.tmp 7)),none⟩,
 ⟨some 61,(.move (.tmp 8)),none⟩,
 ⟨some 62,(.buildSlice [(.int .i64 0)] 1 [(0,1,(.tmp 61))]),none⟩,
 ⟨some 63,(.append 1 8 (.tmp 60) (.tmp 62)),none⟩,
 ⟨some 7,(.move (.tmp 63)),none⟩])
 (.seq (.region [⟨some 64,(.loadN 2 (.tmp 6)),none⟩,
 ⟨some 65,(.call 13 [(.tmp 64)]),none⟩,
 ⟨some 11,(.alloc [(.int .i64 0),.nilSlice,.nilSlice,.nilSlice,.nilSlice,.nilSlice]),none⟩,
 ⟨none,(.store 6 (.tmp 11) (.tmp 65)),none⟩])
 (.seq (.seq (.dregion [[],[0],[0,1],[1,0,2],[2,0,1,3],[2,0,1,3],[3,1,0,2,5],[5,6,3,1,0,2,4],[4,2,0,1,3,6,5,7],[7,5,6,4,8,2,0,1,3]] [.op 0 ⟨some 66,(.loadN 6 (.tmp 11)),none⟩,
 .op 1 ⟨some 67,(.call 11 [(.tmp 66)]),none⟩,
 .op 2 ⟨some 68,(.un .not (.tmp 67)),none⟩,
 .op 3 ⟨some 69,(.move (.tmp 68)),none⟩,
 .op 4 ⟨some 70,(.loadN 6 (.tmp 11)),some (69,false)⟩,
 .op 5 ⟨some 71,(.loadN 2 (.tmp 6)),some (69,false)⟩,
 .op 6 ⟨some 72,(.call 7 [(.tmp 71)]),some (69,false)⟩,
 .re 4 ⟨some 70,(.loadN 6 (.tmp 11)),some (69,false)⟩,
 .op 7 ⟨some 73,(.call 14 [(.tmp 70),(.tmp 72)]),some (69,false)⟩,
 .op 8 ⟨some 74,(.un .not (.tmp 73)),some (69,false)⟩,
 .op 9 ⟨some 75,(.pick (.tmp 69) (.con (.bool true)) (.tmp 74)),none⟩])
 (.cond (.tmp 75)
 (.seq (.region [⟨some 4,(.move (.con (.bool false))),none⟩])
 .ret)
 .skip))
 (.seq (.seq (.region [⟨some 12,(.move (.con (.int .i64 0))),none⟩])
 (.join [false,false,false,false,true] (.block 2 (.loop [false,false,false,false,false,false,false,true,false,false,false,true,true] [false,false,false,false,true]
 (.seq (.seq (.region [⟨some 76,(.move (.tmp 12)),none⟩,
 ⟨some 77,(.fieldAddr 3 (.tmp 11)),none⟩,
 ⟨some 78,(.load1 (.tmp 77)),none⟩,
 ⟨some 79,(.lenS (.tmp 78)),none⟩,
 ⟨some 80,(.bin .lss .prim (.tmp 76) (.tmp 79)),none⟩])
 (.cond (.tmp 80)
 .skip
 (.exit 2)))
 (.seq (.block 3 (.seq (.region [⟨some 83,(.fieldAddr 3 (.tmp 11)),none⟩,
 ⟨some 84,(.load1 (.tmp 83)),none⟩,
 ⟨some 85,(.move (.tmp 12)),none⟩,
 ⟨some 86,(.indexAddrS 7 (.tmp 84) (.tmp 85)),none⟩,
 ⟨some 87,(.loadN 7 (.tmp 86)),none⟩,
 ⟨some 13,(.alloc [(.int .i64 0),(.int .i64 0),(.int .i64 0),(.int .i64 0),(.int .i64 0),(.int .i64 0),(.int .i64 0)]),none⟩,
 ⟨none,(.store 7 (.tmp 13) (.tmp 87)),none⟩])
 (.seq (.dregion [[],[],[1],[1,2,0],[0,2,1,3],[],[],[6],[6,7,5],[5,7,6,8],[8,6,7,5,9,3,1,2,0,4],[4,0,2,1,3,9,5,7,6,8,10]] [.op 0 ⟨some 88,(.move (.tmp 7)),none⟩,
 .op 1 ⟨some 89,(.fieldAddr 0 (.tmp 13)),none⟩,
 .op 2 ⟨some 90,(.load1 (.tmp 89)),none⟩,
 .op 3 ⟨some 91,(.indexAddrS 1 (.tmp 88) (.tmp 90)),none⟩,
 .op 4 ⟨some 92,(.load1 (.tmp 91)),none⟩,
 .op 5 ⟨some 93,(.move (.tmp 7)),none⟩,
 .op 6 ⟨some 94,(.fieldAddr 1 (.tmp 13)),none⟩,
 .op 7 ⟨some 95,(.load1 (.tmp 94)),none⟩,
 .op 8 ⟨some 96,(.indexAddrS 1 (.tmp 93) (.tmp 95)),none⟩,
 .op 9 ⟨some 97,(.load1 (.tmp 96)),none⟩,
 .op 10 ⟨some 98,(.bin .sub .prim (.tmp 92) (.tmp 97)),none⟩,
 .op 11 ⟨some 14,(.move (.tmp 98)),none⟩])
 (.seq (.region [⟨some 99,(.fieldAddr 0 (.tmp 13)),none⟩,
 ⟨some 100,(.load1 (.tmp 99)),none⟩,
 ⟨some 101,(.fieldAddr 1 (.tmp 13)),none⟩,
 ⟨some 102,(.load1 (.tmp 101)),none⟩,
 ⟨some 103,(.bin .neq .prim (.tmp 100) (.tmp 102)),none⟩,
 ⟨some 104,(.move (.tmp 103)),none⟩,
 ⟨some 105,(.fieldAddr 3 (.tmp 13)),some (104,true)⟩,
 ⟨some 106,(.load1 (.tmp 105)),some (104,true)⟩,
 ⟨some 107,(.move (.tmp 14)),some (104,true)⟩,
 ⟨some 108,(.move (.tmp 14)),some (104,true)⟩,
 ⟨some 109,(.bin .sub .prim (.con (.int .i64 0)) (.tmp 108)),some (104,true)⟩,
 ⟨some 110,(.max [(.tmp 107),(.tmp 109)]),some (104,true)⟩,
 ⟨some 111,(.bin .lss .prim (.tmp 106) (.tmp 110)),some (104,true)⟩,
 ⟨some 112,(.pick (.tmp 104) (.tmp 111) (.con (.bool false))),none⟩])
 (.cond (.tmp 112)
 (.seq (.region [⟨some 4,(.move (.con (.bool false))),none⟩])
 .ret)
 .skip)))))
 (.region [⟨some 81,(.move (.tmp 12)),none⟩,
 ⟨some 82,(.bin .add .prim (.tmp 81) (.con (.int .i64 1))),none⟩,
 ⟨some 12,(.move (.tmp 82)),none⟩])))))))
 (.seq (.region [⟨some 4,(.move (.con (.bool true))),none⟩])
 .ret))))))))))))⟩
theorem F4_ok : cfn tab F4.body Tryz.f4 = some F4 := by kernel_rfl

/- milestone/milestonelaw11.known -/
def F5 : AFn := ⟨46,[.tmp 0],
 (.seq (.region [⟨some 0,(.move (.con (.bool false))),none⟩])
 (.seq (.region [⟨some 3,(.build [(.int .i64 0),.nilSlice] [(0,1,(.con (.int .i64 1)))]),none⟩,
 ⟨some 4,(.call 13 [(.tmp 3)]),none⟩,
 ⟨some 1,(.alloc [(.int .i64 0),.nilSlice,.nilSlice,.nilSlice,.nilSlice,.nilSlice]),none⟩,
 ⟨none,(.store 6 (.tmp 1) (.tmp 4)),none⟩])
 (.seq (.region [⟨some 5,(.build [(.int .i64 0),(.int .i64 0),(.int .i64 0),(.int .i64 0)] [(0,1,(.con (.int .i64 0))),(1,1,(.con (.int .i64 1))),(3,1,(.con (.int .i64 3)))]),none⟩,
 ⟨some 6,(.buildSlice [(.int .i64 0),(.int .i64 0),(.int .i64 0),(.int .i64 0)] 1 [(0,4,(.tmp 5))]),none⟩,
 ⟨some 7,(.build [(.int .i64 0),.nilSlice] [(0,1,(.con (.int .i64 2))),(1,1,(.tmp 6))]),none⟩,
 ⟨some 8,(.call 13 [(.tmp 7)]),none⟩,
 ⟨some 2,(.alloc [(.int .i64 0),.nilSlice,.nilSlice,.nilSlice,.nilSlice,.nilSlice]),none⟩,
 ⟨none,(.store 6 (.tmp 2) (.tmp 8)),none⟩])
 (.seq (.region [⟨some 9,(.fieldAddr 3 (.tmp 1)),none⟩,
 ⟨some 10,(.load1 (.tmp 9)),none⟩,
 ⟨some 11,(.lenS (.tmp 10)),none⟩,
 ⟨some 12,(.bin .eql .prim (.tmp 11) (.con (.int .i64 0))),none⟩,
 ⟨some 13,(.move (.tmp 12)),none⟩,
 ⟨some 14,(.fieldAddr 2 (.tmp 1)),some (13,true)⟩,
 ⟨some 15,(.load1 (.tmp 14)),some (13,true)⟩,
 ⟨some 16,(.lenS (.tmp 15)),some (13,true)⟩,
 ⟨some 17,(.bin .eql .prim (.tmp 16) (.con (.int .i64 1))),some (13,true)⟩,
 ⟨some 18,(.pick (.tmp 13) (.tmp 17) (.con (.bool false))),none⟩,
 ⟨some 19,(.move (.tmp 18)),none⟩,
 ⟨some 20,(.fieldAddr 2 (.tmp 1)),some (19,true)⟩,
 ⟨some 21,(.load1 (.tmp 20)),some (19,true)⟩,
 ⟨some 22,(.indexAddrS 1 (.tmp 21) (.con (.int .i64 0))),some (19,true)⟩,
 ⟨some 23,(.load1 (.tmp 22)),some (19,true)⟩,
 ⟨some 24,(.bin .eql .prim (.tmp 23) (.con (.int .i64 0))),some (19,true)⟩,
 ⟨some 25,(.pick (.tmp 19) (.tmp 24) (.con (.bool false))),none⟩,
 ⟨some 26,(.move (.tmp 25)),none⟩,
 ⟨some 27,(.fieldAddr 3 (.tmp 2)),some (26,true)⟩,
 ⟨some 28,(.load1 (.tmp 27)),some (26,true)⟩,
 ⟨some 29,(.lenS (.tmp 28)),some (26,true)⟩,
 ⟨some 30,(.bin .eql .prim (.tmp 29) (.con (.int .i64 1))),some (26,true)⟩,
 ⟨some 31,(.pick (.tmp 26) (.tmp 30) (.con (.bool false))),none⟩,
 ⟨some 32,(.move (.tmp 31)),none⟩,
 ⟨some 33,(.fieldAddr 2 (.tmp 2)),some (32,true)⟩,
 ⟨some 34,(.load1 (.tmp 33)),some (32,true)⟩,
 ⟨some 35,(.lenS (.tmp 34)),some (32,true)⟩,
 ⟨some 36,(.bin .eql .prim (.tmp 35) (.con (.int .i64 2))),some (32,true)⟩,
 ⟨some 37,(.pick (.tmp 32) (.tmp 36) (.con (.bool false))),none⟩,
 ⟨some 38,(.move (.tmp 37)),none⟩,
 ⟨some 39,(.loadN 6 (.tmp 1)),some (38,true)⟩,
 ⟨some 40,(.call 10 [(.tmp 39)]),some (38,true)⟩,
 ⟨some 41,(.pick (.tmp 38) (.tmp 40) (.con (.bool false))),none⟩,
 ⟨some 42,(.move (.tmp 41)),none⟩,
 ⟨some 43,(.loadN 6 (.tmp 2)),some (42,true)⟩,
 ⟨some 44,(.call 10 [(.tmp 43)]),some (42,true)⟩,
 ⟨some 45,(.pick (.tmp 42) (.tmp 44) (.con (.bool false))),none⟩,
 ⟨some 0,(.move (.tmp 45)),none⟩])
 .ret))))⟩
theorem F5_ok : cfn tab F5.body Tryz.f5 = some F5 := by kernel_rfl

/- milestone/milestoneref11.Build -/
def F7 : AFn := ⟨167,[.cell 6 true 2],
 (.seq (.region [⟨some 1,(.box 2 (.tmp 0)),none⟩,
 ⟨some 2,(.alloc [(.int .i64 0),.nilSlice,.nilSlice,.nilSlice,.nilSlice,.nilSlice]),none⟩])
 (.seq (.dregion [[],[0],[],[2],[2,3,0,1],[1,0,3,2,4],[4,2,3,0,1,5],[],[7],[7,8],[8,7,9,5,1,0,3,2,4,6],[6,4,2,3,0,1,5,9,7,8,10],[10,8,7,9,5,1,0,3,2,4,6,11]] [.op 0 ⟨some 13,(.fieldAddr 0 (.tmp 1)),none⟩,
 .op 1 ⟨some 14,(.load1 (.tmp 13)),none⟩,
 .op 2 ⟨some 15,(.fieldAddr 0 (.tmp 1)),none⟩,
 .op 3 ⟨some 16,(.load1 (.tmp 15)),none⟩,
 .op 4 ⟨some 17,(.bin .mul .prim (.tmp 14) (.tmp 16)),none⟩,
 .op 5 ⟨some 18,(.bin .mul .prim (.tmp 17) (.con (.int .i64 5))),none⟩,
 .op 6 ⟨some 19,(.mkSlice [(.int .i64 0)] 8 (.tmp 18) (.tmp 18)),none⟩,
 .op 7 ⟨some 20,(.fieldAddr 0 (.tmp 1)),none⟩,
 .op 8 ⟨some 21,(.load1 (.tmp 20)),none⟩,
 .op 9 ⟨some 22,(.mkSlice [(.bool false)] 1 (.tmp 21) (.tmp 21)),none⟩,
 .op 10 ⟨some 23,(.build [(.int .i64 0),.nilSlice,.nilSlice,.nilSlice,.nilSlice,.nilSlice,.nilSlice,.nilSlice] [(6,1,(.tmp 19)),(7,1,(.tmp 22))]),none⟩,
 .op 11 ⟨some 24,(.box 8 (.tmp 23)),none⟩,
 .op 12 ⟨some 3,(.move (.tmp 24)),none⟩])
 (.seq (.dregion [[],[],[1],[],[],[4],[4,5,3],[3,5,4,6,1,2],[7,6,5,4,3,2,1,0],[0,1,2,3,4,5,6,7,8],[8,7,6,5,4,3,2,1,0,9],[9,0,1,2,3,4,5,6,7,8,10]] [.op 0 ⟨some 25,(.move (.tmp 3)),none⟩,
 .op 1 ⟨some 26,(.fieldAddr 0 (.tmp 1)),none⟩,
 .op 2 ⟨some 27,(.load1 (.tmp 26)),none⟩,
 .op 3 ⟨some 28,(.buildSlice [] 0 []),none⟩,
 .op 4 ⟨some 29,(.fieldAddr 1 (.tmp 1)),none⟩,
 .op 5 ⟨some 30,(.load1 (.tmp 29)),none⟩,
 .op 6 ⟨some 31,(.append 4 32 (.tmp 28) (.tmp 30)),none⟩,
 .re 2 ⟨some 27,(.load1 (.tmp 26)),none⟩,
 .op 7 ⟨some 32,(.build [(.int .i64 0),.nilSlice] [(0,1,(.tmp 27)),(1,1,(.tmp 31))]),none⟩,
 .op 8 ⟨some 33,(.nilCheck (.tmp 25)),none⟩,
 .op 9 ⟨some 34,(.fieldAddr 0 (.tmp 33)),none⟩,
 .op 10 ⟨some 35,(.fieldAddr 0 (.tmp 34)),none⟩,
 .op 11 ⟨none,(.store 2 (.tmp 35) (.tmp 32)),none⟩])
 (.seq (.dregion [[],[],[],[2],[2,3],[],[5],[5,6],[4,3,2,0],[0,2,3,4,8],[8,4,3,2,0,9],[9,0,2,3,4,8,10],[11,10,9,8,7,6,5,4,3,2,0,1],[1,0,2,3,4,5,6,7,8,9,10,11,12],[12,11,10,9,8,7,6,5,4,3,2,0,1,13],[13,1,0,2,3,4,5,6,7,8,9,10,11,12,14]] [.op 0 ⟨some 36,(.move (.tmp 3)),none⟩,
 .op 1 ⟨some 37,(.move (.tmp 3)),none⟩,
 .op 2 ⟨some 38,(.fieldAddr 0 (.tmp 1)),none⟩,
 .op 3 ⟨some 39,(.load1 (.tmp 38)),none⟩,
 .op 4 ⟨some 40,(.mkSlice [.nilSlice] 24 (.tmp 39) (.tmp 39)),none⟩,
 .op 5 ⟨some 41,(.fieldAddr 0 (.tmp 1)),none⟩,
 .op 6 ⟨some 42,(.load1 (.tmp 41)),none⟩,
 .op 7 ⟨some 43,(.mkSlice [.nilSlice] 24 (.tmp 42) (.tmp 42)),none⟩,
 .op 8 ⟨some 44,(.nilCheck (.tmp 36)),none⟩,
 .op 9 ⟨some 45,(.fieldAddr 0 (.tmp 44)),none⟩,
 .op 10 ⟨some 46,(.fieldAddr 4 (.tmp 45)),none⟩,
 .op 11 ⟨none,(.store 1 (.tmp 46) (.tmp 40)),none⟩,
 .re 6 ⟨some 42,(.load1 (.tmp 41)),none⟩,
 .op 12 ⟨some 47,(.nilCheck (.tmp 37)),none⟩,
 .op 13 ⟨some 48,(.fieldAddr 0 (.tmp 47)),none⟩,
 .op 14 ⟨some 49,(.fieldAddr 5 (.tmp 48)),none⟩,
 .op 15 ⟨none,(.store 1 (.tmp 49) (.tmp 43)),none⟩])
 (.seq (.seq (.region [⟨some 4,(.move (.con (.int .i64 0))),none⟩])
 (.join [false,true,true,true] (.block 0 (.loop [false,true,true,true,true] [false,true,true,true]
 (.seq (.seq (.region [⟨some 50,(.move (.tmp 4)),none⟩,
 ⟨some 51,(.fieldAddr 0 (.tmp 1)),none⟩,
 ⟨some 52,(.load1 (.tmp 51)),none⟩,
 ⟨some 53,(.bin .lss .prim (.tmp 50) (.tmp 52)),none⟩])
 (.cond (.tmp 53)
 .skip
 (.exit 0)))
 (.seq (.block 1 (.region [⟨some 56,(.move (.tmp 3)),none⟩,
 ⟨some 57,(.move (.tmp 3)),none⟩,
 ⟨some 58,(.nilCheck (.tmp 57)),none⟩,
 ⟨some 59,(.fieldAddr 0 (.tmp 58)),none⟩,
 ⟨some 60,(.fieldAddr 2 (.tmp 59)),none⟩,
 ⟨some 61,(.load1 (.tmp 60)),none⟩,
 ⟨some 62,(.buildSlice [(.int .i64 0)] 1 [(0,1,(.con (.int .i64 (-1))))]),none⟩,
 ⟨some 63,(.append 1 8 (.tmp 61) (.tmp 62)),none⟩,
 ⟨some 64,(.nilCheck (.tmp 56)),none⟩,
 ⟨some 65,(.fieldAddr 0 (.tmp 64)),none⟩,
 ⟨some 66,(.fieldAddr 2 (.tmp 65)),none⟩,
 ⟨none,(.store 1 (.tmp 66) (.tmp 63)),none⟩]))
 (.region [⟨some 54,(.move (.tmp 4)),none⟩,
 ⟨some 55,(.bin .add .prim (.tmp 54) (.con (.int .i64 1))),none⟩,
 ⟨some 4,(.move (.tmp 55)),none⟩])))))))
 (.seq (.region [⟨some 67,(.move (.tmp 3)),none⟩,
 ⟨some 68,(.call 16 [(.tmp 67)]),none⟩])
 (.seq (.region [⟨some 69,(.loadN 2 (.tmp 1)),none⟩,
 ⟨some 70,(.call 17 [(.tmp 69)]),none⟩,
 ⟨some 5,(.move (.tmp 70)),none⟩])
 (.seq (.seq (.region [⟨some 6,(.move (.con (.int .i64 0))),none⟩])
 (.join [false,true,true,true] (.block 2 (.loop [false,true,true,true,false,true,true] [false,true,true,true]
 (.seq (.seq (.region [⟨some 71,(.move (.tmp 6)),none⟩,
 ⟨some 72,(.move (.tmp 5)),none⟩,
 ⟨some 73,(.lenS (.tmp 72)),none⟩,
 ⟨some 74,(.bin .lss .prim (.tmp 71) (.tmp 73)),none⟩])
 (.cond (.tmp 74)
 .skip
 (.exit 2)))
 (.seq (.block 3 (.seq (.region [⟨some 77,(.move (.tmp 5)),none⟩,
 ⟨some 78,(.move (.tmp 6)),none⟩,
 ⟨some 79,(.indexAddrS 1 (.tmp 77) (.tmp 78)),none⟩,
 ⟨some 80,(.load1 (.tmp 79)),none⟩,
 ⟨some 7,(.move (.tmp 80)),none⟩])
 (.seq (.region [⟨some 81,(.move (.tmp 3)),none⟩,
 ⟨some 82,(.nilCheck (.tmp 81)),none⟩,
 ⟨some 83,(.fieldAddr 0 (.tmp 82)),none⟩,
 ⟨some 84,(.fieldAddr 2 (.tmp 83)),none⟩,
 ⟨some 85,(.load1 (.tmp 84)),none⟩,
 ⟨some 86,(.move (.tmp 7)),none⟩,
 ⟨some 87,(.move (.tmp 6)),none⟩,
 ⟨some 88,(.indexAddrS 1 (.tmp 85) (.tmp 86)),none⟩,
 ⟨none,(.store 1 (.tmp 88) (.tmp 87)),none⟩])
 (.seq (.region [⟨some 89,(.move (.tmp 3)),none⟩,
 ⟨some 90,(.move (.tmp 7)),none⟩,
 ⟨some 91,(.call 18 [(.tmp 89),(.tmp 90)]),none⟩,
 ⟨some 92,(.move (.tmp 3)),none⟩,
 ⟨some 93,(.move (.tmp 7)),none⟩,
 ⟨some 94,(.call 19 [(.tmp 92),(.tmp 93)]),none⟩,
 ⟨some 8,(.move (.tmp 91)),none⟩,
 ⟨some 9,(.move (.tmp 94)),none⟩])
 (.seq (.dregion [[],[0],[0,1],[1,0,2],[2,0,1,3],[],[],[6],[6,7],[7,6,8],[8,6,7,9],[],[],[],[12,9,7,6,8,10,5,3,1,0,2,4],[4,2,0,1,3,5,10,8,6,7,9,12,14],[15,14,13,12,5,4,3,2,1,0,11,9,7,6,8,10],[10,8,6,7,9,11,0,1,2,3,4,5,12,13,14,15,16]] [.op 0 ⟨some 95,(.move (.tmp 3)),none⟩,
 .op 1 ⟨some 96,(.nilCheck (.tmp 95)),none⟩,
 .op 2 ⟨some 97,(.fieldAddr 0 (.tmp 96)),none⟩,
 .op 3 ⟨some 98,(.fieldAddr 4 (.tmp 97)),none⟩,
 .op 4 ⟨some 99,(.load1 (.tmp 98)),none⟩,
 .op 5 ⟨some 100,(.move (.tmp 7)),none⟩,
 .op 6 ⟨some 101,(.move (.tmp 3)),none⟩,
 .op 7 ⟨some 102,(.nilCheck (.tmp 101)),none⟩,
 .op 8 ⟨some 103,(.fieldAddr 0 (.tmp 102)),none⟩,
 .op 9 ⟨some 104,(.fieldAddr 5 (.tmp 103)),none⟩,
 .op 10 ⟨some 105,(.load1 (.tmp 104)),none⟩,
 .op 11 ⟨some 106,(.move (.tmp 7)),none⟩,
 .op 12 ⟨some 107,(.move (.tmp 8)),none⟩,
 .op 13 ⟨some 108,(.move (.tmp 9)),none⟩,
 .op 14 ⟨some 109,(.indexAddrS 1 (.tmp 99) (.tmp 100)),none⟩,
 .op 15 ⟨none,(.store 1 (.tmp 109) (.tmp 107)),none⟩,
 .op 16 ⟨some 110,(.indexAddrS 1 (.tmp 105) (.tmp 106)),none⟩,
 .op 17 ⟨none,(.store 1 (.tmp 110) (.tmp 108)),none⟩])
 (.seq (.seq (.region [⟨some 10,(.move (.con (.int .i64 0))),none⟩])
 (.join [false,true,true,true,false,true,true,true] (.block 4 (.loop [false,true,true,true,false,true,true,true,true,true,true] [false,true,true,true,false,true,true,true]
 (.seq (.seq (.region [⟨some 111,(.move (.tmp 10)),none⟩,
 ⟨some 112,(.move (.tmp 9)),none⟩,
 ⟨some 113,(.lenS (.tmp 112)),none⟩,
 ⟨some 114,(.bin .lss .prim (.tmp 111) (.tmp 113)),none⟩])
 (.cond (.tmp 114)
 .skip
 (.exit 4)))
 (.seq (.block 5 (.seq (.region [⟨some 11,(.move (.con (.int .i64 0))),none⟩])
 (.block 6 (.loop [false,true,true,true,false,true,true,true,true,true,true,true] [false,true,true,true,false,true,true,true,true,true,true]
 (.seq (.seq (.region [⟨some 117,(.move (.tmp 11)),none⟩,
 ⟨some 118,(.move (.tmp 8)),none⟩,
 ⟨some 119,(.lenS (.tmp 118)),none⟩,
 ⟨some 120,(.bin .lss .prim (.tmp 117) (.tmp 119)),none⟩])
 (.cond (.tmp 120)
 .skip
 (.exit 6)))
 (.seq (.block 7 (.dregion [[],[],[],[2,1],[1,2,3],[],[],[6,5],[5,6,7],[7,6,5,8,3,2,1,4,0]] [.op 0 ⟨some 123,(.move (.tmp 3)),none⟩,
 .op 1 ⟨some 124,(.move (.tmp 9)),none⟩,
 .op 2 ⟨some 125,(.move (.tmp 10)),none⟩,
 .op 3 ⟨some 126,(.indexAddrS 1 (.tmp 124) (.tmp 125)),none⟩,
 .op 4 ⟨some 127,(.load1 (.tmp 126)),none⟩,
 .op 5 ⟨some 128,(.move (.tmp 8)),none⟩,
 .op 6 ⟨some 129,(.move (.tmp 11)),none⟩,
 .op 7 ⟨some 130,(.indexAddrS 1 (.tmp 128) (.tmp 129)),none⟩,
 .op 8 ⟨some 131,(.load1 (.tmp 130)),none⟩,
 .op 9 ⟨some 132,(.call 20 [(.tmp 123),(.tmp 127),(.tmp 131)]),none⟩]))
 (.region [⟨some 121,(.move (.tmp 11)),none⟩,
 ⟨some 122,(.bin .add .prim (.tmp 121) (.con (.int .i64 1))),none⟩,
 ⟨some 11,(.move (.tmp 122)),none⟩])))))))
 (.region [⟨some 115,(.move (.tmp 10)),none⟩,
 ⟨some 116,(.bin .add .prim (.tmp 115) (.con (.int .i64 1))),none⟩,
 ⟨some 10,(.move (.tmp 116)),none⟩])))))))
 (.region [⟨some 133,(.move (.tmp 3)),none⟩,
 ⟨some 134,(.nilCheck (.tmp 133)),none⟩,
 ⟨some 135,(.fieldAddr 7 (.tmp 134)),none⟩,
 ⟨some 136,(.load1 (.tmp 135)),none⟩,
 ⟨some 137,(.move (.tmp 7)),none⟩,
 ⟨some 138,(.indexAddrS 1 (.tmp 136) (.tmp 137)),none⟩,
 ⟨none,(.store 1 (.tmp 138) (.con (.bool true))),none⟩])))))))
 (.region [⟨some 75,(.move (.tmp 6)),none⟩,
 ⟨some 76,(.bin .add .prim (.tmp 75) (.con (.int .i64 1))),none⟩,
 ⟨some 6,(.move (.tmp 76)),none⟩])))))))
 (.seq (.seq (.region [⟨some 12,(.move (.con (.int .i64 0))),none⟩])
 (.join [false,false,true,true] (.block 8 (.loop [false,true,true,true,false,false,false,false,false,false,false,false,true] [false,false,true,true]
 (.seq (.seq (.region [⟨some 139,(.move (.tmp 12)),none⟩,
 ⟨some 140,(.fieldAddr 0 (.tmp 1)),none⟩,
 ⟨some 141,(.load1 (.tmp 140)),none⟩,
 ⟨some 142,(.bin .lss .prim (.tmp 139) (.tmp 141)),none⟩])
 (.cond (.tmp 142)
 .skip
 (.exit 8)))
 (.seq (.block 9 (.seq (.region [⟨some 145,(.move (.tmp 3)),none⟩,
 ⟨some 146,(.nilCheck (.tmp 145)),none⟩,
 ⟨some 147,(.fieldAddr 7 (.tmp 146)),none⟩,
 ⟨some 148,(.load1 (.tmp 147)),none⟩,
 ⟨some 149,(.move (.tmp 12)),none⟩,
 ⟨some 150,(.indexAddrS 1 (.tmp 148) (.tmp 149)),none⟩,
 ⟨some 151,(.load1 (.tmp 150)),none⟩,
 ⟨some 152,(.un .not (.tmp 151)),none⟩])
 (.cond (.tmp 152)
 (.dregion [[],[0],[0,1],[1,0,2],[2,0,1,3],[],[],[],[7,6],[8,7,6,5,3,1,0,2,4],[4,2,0,1,3,5,6,7,8,9]] [.op 0 ⟨some 153,(.move (.tmp 3)),none⟩,
 .op 1 ⟨some 154,(.nilCheck (.tmp 153)),none⟩,
 .op 2 ⟨some 155,(.fieldAddr 0 (.tmp 154)),none⟩,
 .op 3 ⟨some 156,(.fieldAddr 4 (.tmp 155)),none⟩,
 .op 4 ⟨some 157,(.load1 (.tmp 156)),none⟩,
 .op 5 ⟨some 158,(.move (.tmp 12)),none⟩,
 .op 6 ⟨some 159,(.move (.tmp 3)),none⟩,
 .op 7 ⟨some 160,(.move (.tmp 12)),none⟩,
 .op 8 ⟨some 161,(.call 18 [(.tmp 159),(.tmp 160)]),none⟩,
 .re 4 ⟨some 157,(.load1 (.tmp 156)),none⟩,
 .op 9 ⟨some 162,(.indexAddrS 1 (.tmp 157) (.tmp 158)),none⟩,
 .op 10 ⟨none,(.store 1 (.tmp 162) (.tmp 161)),none⟩])
 .skip)))
 (.region [⟨some 143,(.move (.tmp 12)),none⟩,
 ⟨some 144,(.bin .add .prim (.tmp 143) (.con (.int .i64 1))),none⟩,
 ⟨some 12,(.move (.tmp 144)),none⟩])))))))
 (.seq (.region [⟨some 163,(.move (.tmp 3)),none⟩,
 ⟨some 164,(.nilCheck (.tmp 163)),none⟩,
 ⟨some 165,(.fieldAddr 0 (.tmp 164)),none⟩,
 ⟨some 166,(.loadN 6 (.tmp 165)),none⟩,
 ⟨none,(.store 6 (.tmp 2) (.tmp 166)),none⟩])
 .ret))))))))))⟩
theorem F7_ok : cfn tab F7.body Tryz.f7 = some F7 := by kernel_rfl

/- milestone/hier.Check -/
def F10 : AFn := ⟨66,[.tmp 2],
 (.seq (.region [⟨some 1,(.box 6 (.tmp 0)),none⟩,
 ⟨some 2,(.move (.con (.bool false))),none⟩])
 (.seq (.seq (.region [⟨some 6,(.fieldAddr 0 (.tmp 1)),none⟩,
 ⟨some 7,(.loadN 2 (.tmp 6)),none⟩,
 ⟨some 8,(.call 23 [(.tmp 7)]),none⟩,
 ⟨some 9,(.un .not (.tmp 8)),none⟩,
 ⟨some 10,(.move (.tmp 9)),none⟩,
 ⟨some 11,(.fieldAddr 2 (.tmp 1)),some (10,false)⟩,
 ⟨some 12,(.load1 (.tmp 11)),some (10,false)⟩,
 ⟨some 13,(.lenS (.tmp 12)),some (10,false)⟩,
 ⟨some 14,(.fieldAddr 0 (.tmp 1)),some (10,false)⟩,
 ⟨some 15,(.fieldAddr 0 (.tmp 14)),some (10,false)⟩,
 ⟨some 16,(.load1 (.tmp 15)),some (10,false)⟩,
 ⟨some 17,(.bin .neq .prim (.tmp 13) (.tmp 16)),some (10,false)⟩,
 ⟨some 18,(.pick (.tmp 10) (.con (.bool true)) (.tmp 17)),none⟩,
 ⟨some 19,(.move (.tmp 18)),none⟩,
 ⟨some 20,(.fieldAddr 4 (.tmp 1)),some (19,false)⟩,
 ⟨some 21,(.load1 (.tmp 20)),some (19,false)⟩,
 ⟨some 22,(.lenS (.tmp 21)),some (19,false)⟩,
 ⟨some 23,(.fieldAddr 0 (.tmp 1)),some (19,false)⟩,
 ⟨some 24,(.fieldAddr 0 (.tmp 23)),some (19,false)⟩,
 ⟨some 25,(.load1 (.tmp 24)),some (19,false)⟩,
 ⟨some 26,(.bin .neq .prim (.tmp 22) (.tmp 25)),some (19,false)⟩,
 ⟨some 27,(.pick (.tmp 19) (.con (.bool true)) (.tmp 26)),none⟩,
 ⟨some 28,(.move (.tmp 27)),none⟩,
 ⟨some 29,(.fieldAddr 5 (.tmp 1)),some (28,false)⟩,
 ⟨some 30,(.load1 (.tmp 29)),some (28,false)⟩,
 ⟨some 31,(.lenS (.tmp 30)),some (28,false)⟩,
 ⟨some 32,(.fieldAddr 0 (.tmp 1)),some (28,false)⟩,
 ⟨some 33,(.fieldAddr 0 (.tmp 32)),some (28,false)⟩,
 ⟨some 34,(.load1 (.tmp 33)),some (28,false)⟩,
 ⟨some 35,(.bin .neq .prim (.tmp 31) (.tmp 34)),some (28,false)⟩,
 ⟨some 36,(.pick (.tmp 28) (.con (.bool true)) (.tmp 35)),none⟩,
 ⟨some 37,(.move (.tmp 36)),none⟩,
 ⟨some 38,(.fieldAddr 3 (.tmp 1)),some (37,false)⟩,
 ⟨some 39,(.load1 (.tmp 38)),some (37,false)⟩,
 ⟨some 40,(.lenS (.tmp 39)),some (37,false)⟩,
 ⟨some 41,(.bin .gtr .prim (.tmp 40) (.con (.int .i64 300000))),some (37,false)⟩,
 ⟨some 42,(.pick (.tmp 37) (.con (.bool true)) (.tmp 41)),none⟩,
 ⟨some 43,(.move (.tmp 42)),none⟩,
 ⟨some 44,(.fieldAddr 2 (.tmp 1)),some (43,false)⟩,
 ⟨some 45,(.load1 (.tmp 44)),some (43,false)⟩,
 ⟨some 46,(.call 24 [(.tmp 45)]),some (43,false)⟩,
 ⟨some 47,(.un .not (.tmp 46)),some (43,false)⟩,
 ⟨some 48,(.pick (.tmp 43) (.con (.bool true)) (.tmp 47)),none⟩])
 (.cond (.tmp 48)
 (.seq (.region [⟨some 2,(.move (.con (.bool false))),none⟩])
 .ret)
 .skip))
 (.seq (.region [⟨some 49,(.loadN 6 (.tmp 1)),none⟩,
 ⟨some 50,(.build [(.int .i64 0),.nilSlice,.nilSlice,.nilSlice,.nilSlice,.nilSlice] [(0,6,(.tmp 49))]),none⟩,
 ⟨some 3,(.alloc [(.int .i64 0),.nilSlice,.nilSlice,.nilSlice,.nilSlice,.nilSlice]),none⟩,
 ⟨none,(.store 6 (.tmp 3) (.tmp 50)),none⟩])
 (.seq (.seq (.region [⟨some 51,(.loadN 6 (.tmp 3)),none⟩,
 ⟨some 52,(.call 25 [(.tmp 51)]),none⟩,
 ⟨some 53,(.un .not (.tmp 52)),none⟩])
 (.cond (.tmp 53)
 (.seq (.region [⟨some 2,(.move (.con (.bool false))),none⟩])
 .ret)
 .skip))
 (.seq (.region [⟨some 4,(.move (.con (.func (.func 26) [] []))),none⟩])
 (.seq (.seq (.region [⟨some 54,(.fieldAddr 0 (.tmp 1)),none⟩,
 ⟨some 55,(.fieldAddr 0 (.tmp 54)),none⟩,
 ⟨some 56,(.load1 (.tmp 55)),none⟩,
 ⟨some 57,(.move (.con (.int .i64 0))),none⟩])
 (.join [false,false,true] (.block 0 (.loop [false,false,false,true,true,false,false,false,false,false,false,false,false,false,false,false,false,false,false,false,false,false,false,false,false,false,false,false,false,false,false,false,false,false,false,false,false,false,false,false,false,false,false,false,false,false,false,false,false,false,false,false,false,false,false,false,true,true] [false,false,true]
 (.seq (.region [⟨some 58,(.bin .lss .prim (.tmp 57) (.tmp 56)),none⟩])
 (.seq (.cond (.tmp 58)
 .skip
 (.exit 0))
 (.seq (.block 1 (.seq (.region [⟨some 59,(.move (.tmp 57)),none⟩,
 ⟨some 5,(.move (.tmp 59)),none⟩])
 (.seq (.region [⟨some 60,(.move (.tmp 4)),none⟩,
 ⟨some 61,(.loadN 6 (.tmp 3)),none⟩,
 ⟨some 62,(.move (.tmp 5)),none⟩,
 ⟨some 63,(.callv (.tmp 60) [(.tmp 61),(.tmp 62)]),none⟩,
 ⟨some 64,(.un .not (.tmp 63)),none⟩])
 (.cond (.tmp 64)
 (.seq (.region [⟨some 2,(.move (.con (.bool false))),none⟩])
 .ret)
 .skip))))
 (.region [⟨some 65,(.bin .add .prim (.tmp 57) (.con (.int .i64 1))),none⟩,
 ⟨some 57,(.move (.tmp 65)),none⟩]))))))))
 (.seq (.region [⟨some 2,(.move (.con (.bool true))),none⟩])
 .ret)))))))⟩
theorem F10_ok : cfn tab F10.body Tryz.f10 = some F10 := by kernel_rfl

/- milestone/milestoneref11.Check -/
def F11 : AFn := ⟨57,[.tmp 2],
 (.seq (.region [⟨some 1,(.box 6 (.tmp 0)),none⟩,
 ⟨some 2,(.move (.con (.bool false))),none⟩])
 (.seq (.seq (.region [⟨some 4,(.fieldAddr 0 (.tmp 1)),none⟩,
 ⟨some 5,(.loadN 2 (.tmp 4)),none⟩,
 ⟨some 6,(.call 27 [(.tmp 5)]),none⟩,
 ⟨some 7,(.un .not (.tmp 6)),none⟩,
 ⟨some 8,(.move (.tmp 7)),none⟩,
 ⟨some 9,(.loadN 6 (.tmp 1)),some (8,false)⟩,
 ⟨some 10,(.call 28 [(.tmp 9)]),some (8,false)⟩,
 ⟨some 11,(.un .not (.tmp 10)),some (8,false)⟩,
 ⟨some 12,(.pick (.tmp 8) (.con (.bool true)) (.tmp 11)),none⟩,
 ⟨some 13,(.move (.tmp 12)),none⟩,
 ⟨some 14,(.fieldAddr 3 (.tmp 1)),some (13,false)⟩,
 ⟨some 15,(.load1 (.tmp 14)),some (13,false)⟩,
 ⟨some 16,(.lenS (.tmp 15)),some (13,false)⟩,
 ⟨some 17,(.bin .gtr .prim (.tmp 16) (.con (.int .i64 300000))),some (13,false)⟩,
 ⟨some 18,(.pick (.tmp 13) (.con (.bool true)) (.tmp 17)),none⟩,
 ⟨some 19,(.move (.tmp 18)),none⟩,
 ⟨some 20,(.fieldAddr 3 (.tmp 1)),some (19,false)⟩,
 ⟨some 21,(.load1 (.tmp 20)),some (19,false)⟩,
 ⟨some 22,(.lenS (.tmp 21)),some (19,false)⟩,
 ⟨some 23,(.bin .gtr .prim (.tmp 22) (.con (.int .i64 0))),some (19,false)⟩,
 ⟨some 24,(.move (.tmp 23)),some (19,false)⟩,
 ⟨some 25,(.loadN 6 (.tmp 1)),some (24,true)⟩,
 ⟨some 26,(.call 29 [(.tmp 25)]),some (24,true)⟩,
 ⟨some 27,(.bin .eql .nilS (.tmp 26) (.con .nilSlice)),some (24,true)⟩,
 ⟨some 28,(.pick (.tmp 24) (.tmp 27) (.con (.bool false))),some (19,false)⟩,
 ⟨some 29,(.pick (.tmp 19) (.con (.bool true)) (.tmp 28)),none⟩])
 (.cond (.tmp 29)
 (.seq (.region [⟨some 2,(.move (.con (.bool false))),none⟩])
 .ret)
 .skip))
 (.seq (.seq (.region [⟨some 3,(.move (.con (.int .i64 0))),none⟩])
 (.join [false,false,true] (.block 0 (.loop [false,true,false,true] [false,false,true]
 (.seq (.seq (.region [⟨some 30,(.move (.tmp 3)),none⟩,
 ⟨some 31,(.fieldAddr 0 (.tmp 1)),none⟩,
 ⟨some 32,(.fieldAddr 0 (.tmp 31)),none⟩,
 ⟨some 33,(.load1 (.tmp 32)),none⟩,
 ⟨some 34,(.bin .lss .prim (.tmp 30) (.tmp 33)),none⟩])
 (.cond (.tmp 34)
 .skip
 (.exit 0)))
 (.seq (.block 1 (.seq (.dregion [[],[],[],[2],[],[4,2,3],[3,2,4,5],[5,4,2,3,6,1,0],[0,1,6,3,2,4,5,7],[7,5,4,2,3,6,1,0,8],[8,0,1,6,3,2,4,5,7,9],[8,0,1,6,3,2,4,5,7,9],[8,0,1,6,3,2,4,5,7,9],[9,7,5,4,2,3,6,1,0,8,12],[8,0,1,6,3,2,4,5,7,9],[14,12,8,0,1,6,3,2,4,5,7,9,13],[13,9,7,5,4,2,3,6,1,0,8,12,14,15],[15,14,12,13,16,11,9,7,5,4,2,3,6,1,0,8,10],[10,8,0,1,6,3,2,4,5,7,9,11,16,13,12,14,15,17],[17,15,14,12,13,16,11,10,18,8,0,1,6,3,2,4,5,7,9]] [.op 0 ⟨some 37,(.loadN 6 (.tmp 1)),none⟩,
 .op 1 ⟨some 38,(.move (.tmp 3)),none⟩,
 .op 2 ⟨some 39,(.fieldAddr 4 (.tmp 1)),none⟩,
 .op 3 ⟨some 40,(.load1 (.tmp 39)),none⟩,
 .op 4 ⟨some 41,(.move (.tmp 3)),none⟩,
 .op 5 ⟨some 42,(.indexAddrS 1 (.tmp 40) (.tmp 41)),none⟩,
 .op 6 ⟨some 43,(.load1 (.tmp 42)),none⟩,
 .op 7 ⟨some 44,(.call 30 [(.tmp 37),(.tmp 38),(.tmp 43),(.con (.bool true))]),none⟩,
 .op 8 ⟨some 45,(.un .not (.tmp 44)),none⟩,
 .op 9 ⟨some 46,(.move (.tmp 45)),none⟩,
 .op 10 ⟨some 47,(.loadN 6 (.tmp 1)),some (46,false)⟩,
 .op 11 ⟨some 48,(.move (.tmp 3)),some (46,false)⟩,
 .op 12 ⟨some 49,(.fieldAddr 5 (.tmp 1)),some (46,false)⟩,
 .op 13 ⟨some 50,(.load1 (.tmp 49)),some (46,false)⟩,
 .op 14 ⟨some 51,(.move (.tmp 3)),some (46,false)⟩,
 .op 15 ⟨some 52,(.indexAddrS 1 (.tmp 50) (.tmp 51)),some (46,false)⟩,
 .op 16 ⟨some 53,(.load1 (.tmp 52)),some (46,false)⟩,
 .op 17 ⟨some 54,(.call 30 [(.tmp 47),(.tmp 48),(.tmp 53),(.con (.bool false))]),some (46,false)⟩,
 .op 18 ⟨some 55,(.un .not (.tmp 54)),some (46,false)⟩,
 .op 19 ⟨some 56,(.pick (.tmp 46) (.con (.bool true)) (.tmp 55)),none⟩])
 (.cond (.tmp 56)
 (.seq (.region [⟨some 2,(.move (.con (.bool false))),none⟩])
 .ret)
 .skip)))
 (.region [⟨some 35,(.move (.tmp 3)),none⟩,
 ⟨some 36,(.bin .add .prim (.tmp 35) (.con (.int .i64 1))),none⟩,
 ⟨some 3,(.move (.tmp 36)),none⟩])))))))
 (.seq (.region [⟨some 2,(.move (.con (.bool true))),none⟩])
 .ret))))⟩
theorem F11_ok : cfn tab F11.body Tryz.f11 = some F11 := by kernel_rfl

/- milestone/milestonelaw11.within -/
def F12 : AFn := ⟨15,[.tmp 4],
 (.seq (.region [⟨some 4,(.move (.con (.int .i64 0))),none⟩])
 (.seq (.region [⟨some 6,(.move (.tmp 0)),none⟩,
 ⟨some 7,(.move (.tmp 1)),none⟩,
 ⟨some 8,(.bin .rem .prim (.tmp 6) (.tmp 7)),none⟩,
 ⟨some 5,(.move (.tmp 8)),none⟩])
 (.seq (.seq (.region [⟨some 9,(.move (.tmp 5)),none⟩,
 ⟨some 10,(.bin .lss .prim (.tmp 9) (.con (.int .i64 0))),none⟩])
 (.join [false,false,false,false,true,true] (.cond (.tmp 10)
 (.region [⟨some 11,(.move (.tmp 5)),none⟩,
 ⟨some 12,(.move (.tmp 1)),none⟩,
 ⟨some 13,(.bin .add .prim (.tmp 11) (.tmp 12)),none⟩,
 ⟨some 5,(.move (.tmp 13)),none⟩])
 .skip)))
 (.seq (.region [⟨some 14,(.move (.tmp 5)),none⟩,
 ⟨some 4,(.move (.tmp 14)),none⟩])
 .ret))))⟩
theorem F12_ok : cfn tab F12.body Tryz.f12 = some F12 := by kernel_rfl

/- milestone/hier.Build -/
def F13 : AFn := ⟨109,[.cell 6 true 2],
 (.seq (.region [⟨some 1,(.box 2 (.tmp 0)),none⟩,
 ⟨some 2,(.alloc [(.int .i64 0),.nilSlice,.nilSlice,.nilSlice,.nilSlice,.nilSlice]),none⟩])
 (.seq (.dregion [[],[0],[],[2],[2,3],[3,2,4,0,1],[1,0,4,2,3,5]] [.op 0 ⟨some 9,(.fieldAddr 0 (.tmp 1)),none⟩,
 .op 1 ⟨some 10,(.load1 (.tmp 9)),none⟩,
 .op 2 ⟨some 11,(.fieldAddr 1 (.tmp 1)),none⟩,
 .op 3 ⟨some 12,(.load1 (.tmp 11)),none⟩,
 .op 4 ⟨some 13,(.call 31 [(.tmp 12)]),none⟩,
 .re 1 ⟨some 10,(.load1 (.tmp 9)),none⟩,
 .op 5 ⟨some 14,(.build [(.int .i64 0),.nilSlice] [(0,1,(.tmp 10)),(1,1,(.tmp 13))]),none⟩,
 .op 6 ⟨none,(.store 2 (.tmp 1) (.tmp 14)),none⟩])
 (.seq (.dregion [[],[],[1],[1,2],[],[4],[4,5],[],[7],[7,8],[8,7,9,5,4,6,2,1,3,0],[],[],[12],[12,13],[13,12,14,11,0,3,1,2,6,4,5,9,7,8,10],[10,8,7,9,5,4,6,2,1,3,0,11,14,12,13,15],[],[15,13,12,14,11,0,3,1,2,6,4,5,9,7,8,10,16,17]] [.op 0 ⟨some 15,(.loadN 2 (.tmp 1)),none⟩,
 .op 1 ⟨some 16,(.fieldAddr 0 (.tmp 1)),none⟩,
 .op 2 ⟨some 17,(.load1 (.tmp 16)),none⟩,
 .op 3 ⟨some 18,(.mkSlice [(.int .i64 0)] 8 (.tmp 17) (.tmp 17)),none⟩,
 .op 4 ⟨some 19,(.fieldAddr 0 (.tmp 1)),none⟩,
 .op 5 ⟨some 20,(.load1 (.tmp 19)),none⟩,
 .op 6 ⟨some 21,(.mkSlice [.nilSlice] 24 (.tmp 20) (.tmp 20)),none⟩,
 .op 7 ⟨some 22,(.fieldAddr 0 (.tmp 1)),none⟩,
 .op 8 ⟨some 23,(.load1 (.tmp 22)),none⟩,
 .op 9 ⟨some 24,(.mkSlice [.nilSlice] 24 (.tmp 23) (.tmp 23)),none⟩,
 .op 10 ⟨some 25,(.build [(.int .i64 0),.nilSlice,.nilSlice,.nilSlice,.nilSlice,.nilSlice] [(0,2,(.tmp 15)),(2,1,(.tmp 18)),(4,1,(.tmp 21)),(5,1,(.tmp 24))]),none⟩,
 .op 11 ⟨some 26,.mkMap,none⟩,
 .op 12 ⟨some 27,(.fieldAddr 0 (.tmp 1)),none⟩,
 .op 13 ⟨some 28,(.load1 (.tmp 27)),none⟩,
 .op 14 ⟨some 29,(.mkSlice [(.bool false)] 1 (.tmp 28) (.tmp 28)),none⟩,
 .op 15 ⟨some 30,(.build [(.int .i64 0),.nilSlice,.nilSlice,.nilSlice,.nilSlice,.nilSlice,.nilMap,.nilSlice] [(0,6,(.tmp 25)),(6,1,(.tmp 26)),(7,1,(.tmp 29))]),none⟩,
 .op 16 ⟨some 31,(.box 8 (.tmp 30)),none⟩,
 .op 17 ⟨some 3,(.alloc [.nilPtr]),none⟩,
 .op 18 ⟨none,(.store 1 (.tmp 3) (.tmp 31)),none⟩])
 (.seq (.seq (.region [⟨some 32,(.load1 (.tmp 3)),none⟩,
 ⟨some 33,(.nilCheck (.tmp 32)),none⟩,
 ⟨some 34,(.fieldAddr 0 (.tmp 33)),none⟩,
 ⟨some 35,(.fieldAddr 2 (.tmp 34)),none⟩,
 ⟨some 36,(.load1 (.tmp 35)),none⟩,
 ⟨some 37,(.lenS (.tmp 36)),none⟩,
 ⟨some 38,(.move (.con (.int .i64 0))),none⟩])
 (.join [false,true,true,true] (.block 0 (.loop [false,true,true,true,false,false,false,false,false,false,false,false,false,false,false,false,false,false,false,false,false,false,false,false,false,false,false,false,false,false,false,false,false,false,false,false,false,true,true] [false,true,true,true]
 (.seq (.region [⟨some 39,(.bin .lss .prim (.tmp 38) (.tmp 37)),none⟩])
 (.seq (.cond (.tmp 39)
 .skip
 (.exit 0))
 (.seq (.block 1 (.seq (.region [⟨some 40,(.move (.tmp 38)),none⟩,
 ⟨some 4,(.move (.tmp 40)),none⟩])
 (.region [⟨some 41,(.load1 (.tmp 3)),none⟩,
 ⟨some 42,(.nilCheck (.tmp 41)),none⟩,
 ⟨some 43,(.fieldAddr 0 (.tmp 42)),none⟩,
 ⟨some 44,(.fieldAddr 2 (.tmp 43)),none⟩,
 ⟨some 45,(.load1 (.tmp 44)),none⟩,
 ⟨some 46,(.move (.tmp 4)),none⟩,
 ⟨some 47,(.indexAddrS 1 (.tmp 45) (.tmp 46)),none⟩,
 ⟨none,(.store 1 (.tmp 47) (.con (.int .i64 (-1)))),none⟩])))
 (.region [⟨some 48,(.bin .add .prim (.tmp 38) (.con (.int .i64 1))),none⟩,
 ⟨some 38,(.move (.tmp 48)),none⟩]))))))))
 (.seq (.region [⟨some 49,(.load1 (.tmp 3)),none⟩,
 ⟨some 50,(.call 32 [(.tmp 49)]),none⟩])
 (.seq (.seq (.region [⟨some 51,(.loadN 2 (.tmp 1)),none⟩,
 ⟨some 52,(.call 33 [(.tmp 51)]),none⟩,
 ⟨some 53,(.lenS (.tmp 52)),none⟩,
 ⟨some 54,(.move (.con (.int .i64 0))),none⟩])
 (.join [false,false,true,true] (.block 2 (.loop [false,false,true,true,false,false,false,false,false,false,false,false,false,false,false,false,false,false,false,false,false,false,false,false,false,false,false,false,false,false,false,false,false,false,false,false,false,false,false,false,false,false,false,false,false,false,false,false,false,false,false,false,true,true,true] [false,false,true,true]
 (.seq (.region [⟨some 55,(.bin .lss .prim (.tmp 54) (.tmp 53)),none⟩])
 (.seq (.cond (.tmp 55)
 .skip
 (.exit 2))
 (.seq (.block 3 (.seq (.region [⟨some 56,(.move (.tmp 54)),none⟩,
 ⟨some 57,(.indexAddrS 1 (.tmp 52) (.tmp 54)),none⟩,
 ⟨some 58,(.load1 (.tmp 57)),none⟩,
 ⟨some 5,(.move (.tmp 56)),none⟩,
 ⟨some 6,(.move (.tmp 58)),none⟩])
 (.seq (.region [⟨some 59,(.load1 (.tmp 3)),none⟩,
 ⟨some 60,(.nilCheck (.tmp 59)),none⟩,
 ⟨some 61,(.fieldAddr 0 (.tmp 60)),none⟩,
 ⟨some 62,(.fieldAddr 2 (.tmp 61)),none⟩,
 ⟨some 63,(.load1 (.tmp 62)),none⟩,
 ⟨some 64,(.move (.tmp 6)),none⟩,
 ⟨some 65,(.move (.tmp 5)),none⟩,
 ⟨some 66,(.indexAddrS 1 (.tmp 63) (.tmp 64)),none⟩,
 ⟨none,(.store 1 (.tmp 66) (.tmp 65)),none⟩])
 (.region [⟨some 67,(.load1 (.tmp 3)),none⟩,
 ⟨some 68,(.move (.tmp 6)),none⟩,
 ⟨some 69,(.call 34 [(.tmp 67),(.tmp 68)]),none⟩]))))
 (.region [⟨some 70,(.bin .add .prim (.tmp 54) (.con (.int .i64 1))),none⟩,
 ⟨some 54,(.move (.tmp 70)),none⟩]))))))))
 (.seq (.seq (.region [⟨some 71,(.load1 (.tmp 3)),none⟩,
 ⟨some 72,(.nilCheck (.tmp 71)),none⟩,
 ⟨some 73,(.fieldAddr 0 (.tmp 72)),none⟩,
 ⟨some 74,(.fieldAddr 2 (.tmp 73)),none⟩,
 ⟨some 75,(.load1 (.tmp 74)),none⟩,
 ⟨some 76,(.lenS (.tmp 75)),none⟩,
 ⟨some 77,(.move (.con (.int .i64 0))),none⟩])
 (.join [false,false,true,true] (.block 4 (.loop [false,false,true,true,false,false,false,false,false,false,false,false,false,false,false,false,false,false,false,false,false,false,false,false,false,false,false,false,false,false,false,false,false,false,false,false,false,false,false,false,false,false,false,false,false,false,false,false,false,false,false,false,false,false,false,false,false,false,false,false,false,false,false,false,false,false,false,false,false,false,false,false,false,false,false,true,true,true] [false,false,true,true]
 (.seq (.region [⟨some 78,(.bin .lss .prim (.tmp 77) (.tmp 76)),none⟩])
 (.seq (.cond (.tmp 78)
 .skip
 (.exit 4))
 (.seq (.block 5 (.seq (.region [⟨some 79,(.move (.tmp 77)),none⟩,
 ⟨some 80,(.indexAddrS 1 (.tmp 75) (.tmp 77)),none⟩,
 ⟨some 81,(.load1 (.tmp 80)),none⟩,
 ⟨some 7,(.alloc [(.int .i64 0)]),none⟩,
 ⟨none,(.store 1 (.tmp 7) (.tmp 79)),none⟩,
 ⟨some 8,(.move (.tmp 81)),none⟩])
 (.seq (.region [⟨some 82,(.move (.tmp 8)),none⟩,
 ⟨some 83,(.bin .lss .prim (.tmp 82) (.con (.int .i64 0))),none⟩])
 (.cond (.tmp 83)
 (.dregion [[],[0],[0,1],[1,0,2],[2,0,1,3],[],[],[],[7,6],[8,7,6,5,3,1,0,2,4],[4,2,0,1,3,5,6,7,8,9]] [.op 0 ⟨some 84,(.load1 (.tmp 3)),none⟩,
 .op 1 ⟨some 85,(.nilCheck (.tmp 84)),none⟩,
 .op 2 ⟨some 86,(.fieldAddr 0 (.tmp 85)),none⟩,
 .op 3 ⟨some 87,(.fieldAddr 4 (.tmp 86)),none⟩,
 .op 4 ⟨some 88,(.load1 (.tmp 87)),none⟩,
 .op 5 ⟨some 89,(.load1 (.tmp 7)),none⟩,
 .op 6 ⟨some 90,(.load1 (.tmp 3)),none⟩,
 .op 7 ⟨some 91,(.mkFunc (.func 36) [] [(.tmp 7),(.tmp 3)]),none⟩,
 .op 8 ⟨some 92,(.call 35 [(.tmp 90),(.tmp 91)]),none⟩,
 .re 0 ⟨some 84,(.load1 (.tmp 3)),none⟩,
 .re 4 ⟨some 88,(.load1 (.tmp 87)),none⟩,
 .re 5 ⟨some 89,(.load1 (.tmp 7)),none⟩,
 .op 9 ⟨some 93,(.indexAddrS 1 (.tmp 88) (.tmp 89)),none⟩,
 .op 10 ⟨none,(.store 1 (.tmp 93) (.tmp 92)),none⟩])
 .skip))))
 (.region [⟨some 94,(.bin .add .prim (.tmp 77) (.con (.int .i64 1))),none⟩,
 ⟨some 77,(.move (.tmp 94)),none⟩]))))))))
 (.seq (.dregion [[],[],[1],[1,2],[2,1,3],[3,1,2,4],[4,2,1,3,5],[6,5,4,3,2,1,0],[0,1,2,3,4,5,6,7],[7,6,5,4,3,2,1,0,8],[8,0,1,2,3,4,5,6,7,9]] [.op 0 ⟨some 95,(.load1 (.tmp 3)),none⟩,
 .op 1 ⟨some 96,(.load1 (.tmp 3)),none⟩,
 .op 2 ⟨some 97,(.nilCheck (.tmp 96)),none⟩,
 .op 3 ⟨some 98,(.fieldAddr 0 (.tmp 97)),none⟩,
 .op 4 ⟨some 99,(.fieldAddr 3 (.tmp 98)),none⟩,
 .op 5 ⟨some 100,(.load1 (.tmp 99)),none⟩,
 .op 6 ⟨some 101,(.call 37 [(.tmp 100)]),none⟩,
 .re 0 ⟨some 95,(.load1 (.tmp 3)),none⟩,
 .op 7 ⟨some 102,(.nilCheck (.tmp 95)),none⟩,
 .op 8 ⟨some 103,(.fieldAddr 0 (.tmp 102)),none⟩,
 .op 9 ⟨some 104,(.fieldAddr 3 (.tmp 103)),none⟩,
 .op 10 ⟨none,(.store 1 (.tmp 104) (.tmp 101)),none⟩])
 (.seq (.region [⟨some 105,(.load1 (.tmp 3)),none⟩,
 ⟨some 106,(.nilCheck (.tmp 105)),none⟩,
 ⟨some 107,(.fieldAddr 0 (.tmp 106)),none⟩,
 ⟨some 108,(.loadN 6 (.tmp 107)),none⟩,
 ⟨none,(.store 6 (.tmp 2) (.tmp 108)),none⟩])
 .ret)))))))))⟩
theorem F13_ok : cfn tab F13.body Tryz.f13 = some F13 := by kernel_rfl

/- milestone/milestoneref11.Same -/
def F14 : AFn := ⟨106,[.tmp 4],
 (.seq (.region [⟨some 2,(.box 6 (.tmp 0)),none⟩,
 ⟨some 3,(.box 6 (.tmp 1)),none⟩,
 ⟨some 4,(.move (.con (.bool false))),none⟩])
 (.seq (.seq (.region [⟨some 7,(.fieldAddr 0 (.tmp 2)),none⟩,
 ⟨some 8,(.loadN 2 (.tmp 7)),none⟩,
 ⟨some 9,(.fieldAddr 0 (.tmp 3)),none⟩,
 ⟨some 10,(.loadN 2 (.tmp 9)),none⟩,
 ⟨some 11,(.call 38 [(.tmp 8),(.tmp 10)]),none⟩,
 ⟨some 12,(.un .not (.tmp 11)),none⟩,
 ⟨some 13,(.move (.tmp 12)),none⟩,
 ⟨some 14,(.fieldAddr 2 (.tmp 2)),some (13,false)⟩,
 ⟨some 15,(.load1 (.tmp 14)),some (13,false)⟩,
 ⟨some 16,(.fieldAddr 2 (.tmp 3)),some (13,false)⟩,
 ⟨some 17,(.load1 (.tmp 16)),some (13,false)⟩,
 ⟨some 18,(.call 39 [(.tmp 15),(.tmp 17)]),some (13,false)⟩,
 ⟨some 19,(.un .not (.tmp 18)),some (13,false)⟩,
 ⟨some 20,(.pick (.tmp 13) (.con (.bool true)) (.tmp 19)),none⟩,
 ⟨some 21,(.move (.tmp 20)),none⟩,
 ⟨some 22,(.fieldAddr 3 (.tmp 2)),some (21,false)⟩,
 ⟨some 23,(.load1 (.tmp 22)),some (21,false)⟩,
 ⟨some 24,(.lenS (.tmp 23)),some (21,false)⟩,
 ⟨some 25,(.fieldAddr 3 (.tmp 3)),some (21,false)⟩,
 ⟨some 26,(.load1 (.tmp 25)),some (21,false)⟩,
 ⟨some 27,(.lenS (.tmp 26)),some (21,false)⟩,
 ⟨some 28,(.bin .neq .prim (.tmp 24) (.tmp 27)),some (21,false)⟩,
 ⟨some 29,(.pick (.tmp 21) (.con (.bool true)) (.tmp 28)),none⟩,
 ⟨some 30,(.move (.tmp 29)),none⟩,
 ⟨some 31,(.fieldAddr 4 (.tmp 2)),some (30,false)⟩,
 ⟨some 32,(.load1 (.tmp 31)),some (30,false)⟩,
 ⟨some 33,(.lenS (.tmp 32)),some (30,false)⟩,
 ⟨some 34,(.fieldAddr 4 (.tmp 3)),some (30,false)⟩,
 ⟨some 35,(.load1 (.tmp 34)),some (30,false)⟩,
 ⟨some 36,(.lenS (.tmp 35)),some (30,false)⟩,
 ⟨some 37,(.bin .neq .prim (.tmp 33) (.tmp 36)),some (30,false)⟩,
 ⟨some 38,(.pick (.tmp 30) (.con (.bool true)) (.tmp 37)),none⟩,
 ⟨some 39,(.move (.tmp 38)),none⟩,
 ⟨some 40,(.fieldAddr 5 (.tmp 2)),some (39,false)⟩,
 ⟨some 41,(.load1 (.tmp 40)),some (39,false)⟩,
 ⟨some 42,(.lenS (.tmp 41)),some (39,false)⟩,
 ⟨some 43,(.fieldAddr 5 (.tmp 3)),some (39,false)⟩,
 ⟨some 44,(.load1 (.tmp 43)),some (39,false)⟩,
 ⟨some 45,(.lenS (.tmp 44)),some (39,false)⟩,
 ⟨some 46,(.bin .neq .prim (.tmp 42) (.tmp 45)),some (39,false)⟩,
 ⟨some 47,(.pick (.tmp 39) (.con (.bool true)) (.tmp 46)),none⟩])
 (.cond (.tmp 47)
 (.seq (.region [⟨some 4,(.move (.con (.bool false))),none⟩])
 .ret)
 .skip))
 (.seq (.seq (.region [⟨some 5,(.move (.con (.int .i64 0))),none⟩])
 (.join [false,false,true,true,true] (.block 0 (.loop [false,false,true,true,false,true] [false,false,true,true,true]
 (.seq (.seq (.region [⟨some 48,(.move (.tmp 5)),none⟩,
 ⟨some 49,(.fieldAddr 3 (.tmp 2)),none⟩,
 ⟨some 50,(.load1 (.tmp 49)),none⟩,
 ⟨some 51,(.lenS (.tmp 50)),none⟩,
 ⟨some 52,(.bin .lss .prim (.tmp 48) (.tmp 51)),none⟩])
 (.cond (.tmp 52)
 .skip
 (.exit 0)))
 (.seq (.block 1 (.seq (.dregion [[],[0],[],[2,0,1],[1,0,2,3],[],[5],[],[7,5,6],[6,5,7,8],[8,7,5,6,9,3,2,0,1,4]] [.op 0 ⟨some 55,(.fieldAddr 3 (.tmp 2)),none⟩,
 .op 1 ⟨some 56,(.load1 (.tmp 55)),none⟩,
 .op 2 ⟨some 57,(.move (.tmp 5)),none⟩,
 .op 3 ⟨some 58,(.indexAddrS 7 (.tmp 56) (.tmp 57)),none⟩,
 .op 4 ⟨some 59,(.loadN 7 (.tmp 58)),none⟩,
 .op 5 ⟨some 60,(.fieldAddr 3 (.tmp 3)),none⟩,
 .op 6 ⟨some 61,(.load1 (.tmp 60)),none⟩,
 .op 7 ⟨some 62,(.move (.tmp 5)),none⟩,
 .op 8 ⟨some 63,(.indexAddrS 7 (.tmp 61) (.tmp 62)),none⟩,
 .op 9 ⟨some 64,(.loadN 7 (.tmp 63)),none⟩,
 .op 10 ⟨some 65,(.bin .neq (.flat [.int,.int,.int,.int,.int,.int,.int]) (.tmp 59) (.tmp 64)),none⟩])
 (.cond (.tmp 65)
 (.seq (.region [⟨some 4,(.move (.con (.bool false))),none⟩])
 .ret)
 .skip)))
 (.region [⟨some 53,(.move (.tmp 5)),none⟩,
 ⟨some 54,(.bin .add .prim (.tmp 53) (.con (.int .i64 1))),none⟩,
 ⟨some 5,(.move (.tmp 54)),none⟩])))))))
 (.seq (.seq (.region [⟨some 6,(.move (.con (.int .i64 0))),none⟩])
 (.join [false,false,false,false,true] (.block 2 (.loop [false,false,true,true,false,false,true] [false,false,false,false,true]
 (.seq (.seq (.region [⟨some 66,(.move (.tmp 6)),none⟩,
 ⟨some 67,(.fieldAddr 4 (.tmp 2)),none⟩,
 ⟨some 68,(.load1 (.tmp 67)),none⟩,
 ⟨some 69,(.lenS (.tmp 68)),none⟩,
 ⟨some 70,(.bin .lss .prim (.tmp 66) (.tmp 69)),none⟩])
 (.cond (.tmp 70)
 .skip
 (.exit 2)))
 (.seq (.block 3 (.seq (.dregion [[],[0],[],[2,0,1],[1,0,2,3],[],[5],[],[7,5,6],[6,5,7,8],[8,7,5,6,9,3,2,0,1,4],[4,1,0,2,3,9,6,5,7,8,10],[10,8,7,5,6,9,3,2,0,1,4,11],[11,4,1,0,2,3,9,6,5,7,8,10,12],[11,4,1,0,2,3,9,6,5,7,8,10,12],[12,10,8,7,5,6,9,3,2,0,1,4,11,14],[14,11,4,1,0,2,3,9,6,5,7,8,10,12,15],[15,14,16,12,10,8,7,5,6,9,3,2,0,1,4,11,13],[13,16,14,15,17,11,4,1,0,2,3,9,6,5,7,8,10,12],[12,10,8,7,5,6,9,3,2,0,1,4,11,17,15,14,16,13,18],[18,13,16,14,15,17,11,4,1,0,2,3,9,6,5,7,8,10,12,19],[19,12,10,8,7,5,6,9,3,2,0,1,4,11,17,15,14,16,13,18,20],[18,13,16,14,15,17,11,4,1,0,2,3,9,6,5,7,8,10,12,19],[22,20,18,13,16,14,15,17,11,4,1,0,2,3,9,6,5,7,8,10,12,19,21],[21,19,12,10,8,7,5,6,9,3,2,0,1,4,11,17,15,14,16,13,18,20,22,23],[18,13,16,14,15,17,11,4,1,0,2,3,9,6,5,7,8,10,12,19],[19,12,10,8,7,5,6,9,3,2,0,1,4,11,17,15,14,16,13,18,25],[18,13,16,14,15,17,11,4,1,0,2,3,9,6,5,7,8,10,12,19],[27,25,18,13,16,14,15,17,11,4,1,0,2,3,9,6,5,7,8,10,12,19,26],[26,19,12,10,8,7,5,6,9,3,2,0,1,4,11,17,15,14,16,13,18,25,27,28],[28,27,25,26,29,23,22,20,18,13,16,14,15,17,11,4,1,0,2,3,9,6,5,7,8,10,12,19,21,24],[24,21,19,12,10,8,7,5,6,9,3,2,0,1,4,11,17,15,14,16,13,18,20,22,23,29,26,25,27,28,30],[30,28,27,25,26,29,23,22,20,21,24,31,18,13,16,14,15,17,11,4,1,0,2,3,9,6,5,7,8,10,12,19]] [.op 0 ⟨some 73,(.fieldAddr 4 (.tmp 2)),none⟩,
 .op 1 ⟨some 74,(.load1 (.tmp 73)),none⟩,
 .op 2 ⟨some 75,(.move (.tmp 6)),none⟩,
 .op 3 ⟨some 76,(.indexAddrS 1 (.tmp 74) (.tmp 75)),none⟩,
 .op 4 ⟨some 77,(.load1 (.tmp 76)),none⟩,
 .op 5 ⟨some 78,(.fieldAddr 4 (.tmp 3)),none⟩,
 .op 6 ⟨some 79,(.load1 (.tmp 78)),none⟩,
 .op 7 ⟨some 80,(.move (.tmp 6)),none⟩,
 .op 8 ⟨some 81,(.indexAddrS 1 (.tmp 79) (.tmp 80)),none⟩,
 .op 9 ⟨some 82,(.load1 (.tmp 81)),none⟩,
 .op 10 ⟨some 83,(.call 39 [(.tmp 77),(.tmp 82)]),none⟩,
 .op 11 ⟨some 84,(.un .not (.tmp 83)),none⟩,
 .op 12 ⟨some 85,(.move (.tmp 84)),none⟩,
 .op 13 ⟨some 86,(.move (.tmp 6)),some (85,false)⟩,
 .op 14 ⟨some 87,(.fieldAddr 5 (.tmp 2)),some (85,false)⟩,
 .op 15 ⟨some 88,(.load1 (.tmp 87)),some (85,false)⟩,
 .op 16 ⟨some 89,(.lenS (.tmp 88)),some (85,false)⟩,
 .op 17 ⟨some 90,(.bin .geq .prim (.tmp 86) (.tmp 89)),some (85,false)⟩,
 .op 18 ⟨some 91,(.pick (.tmp 85) (.con (.bool true)) (.tmp 90)),none⟩,
 .op 19 ⟨some 92,(.move (.tmp 91)),none⟩,
 .op 20 ⟨some 93,(.fieldAddr 5 (.tmp 2)),some (92,false)⟩,
 .op 21 ⟨some 94,(.load1 (.tmp 93)),some (92,false)⟩,
 .op 22 ⟨some 95,(.move (.tmp 6)),some (92,false)⟩,
 .op 23 ⟨some 96,(.indexAddrS 1 (.tmp 94) (.tmp 95)),some (92,false)⟩,
 .op 24 ⟨some 97,(.load1 (.tmp 96)),some (92,false)⟩,
 .op 25 ⟨some 98,(.fieldAddr 5 (.tmp 3)),some (92,false)⟩,
 .op 26 ⟨some 99,(.load1 (.tmp 98)),some (92,false)⟩,
 .op 27 ⟨some 100,(.move (.tmp 6)),some (92,false)⟩,
 .op 28 ⟨some 101,(.indexAddrS 1 (.tmp 99) (.tmp 100)),some (92,false)⟩,
 .op 29 ⟨some 102,(.load1 (.tmp 101)),some (92,false)⟩,
 .op 30 ⟨some 103,(.call 39 [(.tmp 97),(.tmp 102)]),some (92,false)⟩,
 .op 31 ⟨some 104,(.un .not (.tmp 103)),some (92,false)⟩,
 .op 32 ⟨some 105,(.pick (.tmp 92) (.con (.bool true)) (.tmp 104)),none⟩])
 (.cond (.tmp 105)
 (.seq (.region [⟨some 4,(.move (.con (.bool false))),none⟩])
 .ret)
 .skip)))
 (.region [⟨some 71,(.move (.tmp 6)),none⟩,
 ⟨some 72,(.bin .add .prim (.tmp 71) (.con (.int .i64 1))),none⟩,
 ⟨some 6,(.move (.tmp 72)),none⟩])))))))
 (.seq (.region [⟨some 4,(.move (.con (.bool true))),none⟩])
 .ret)))))⟩
theorem F14_ok : cfn tab F14.body Tryz.f14 = some F14 := by kernel_rfl

/- (*milestone/milestoneref11.work).begin -/
def F16 : AFn := ⟨102,[],
 (.seq (.region [⟨some 9,(.move (.tmp 0)),none⟩,
 ⟨some 10,(.nilCheck (.tmp 9)),none⟩,
 ⟨some 11,(.fieldAddr 0 (.tmp 10)),none⟩,
 ⟨some 12,(.fieldAddr 0 (.tmp 11)),none⟩,
 ⟨some 13,(.loadN 2 (.tmp 12)),none⟩,
 ⟨some 2,(.alloc [(.int .i64 0),.nilSlice]),none⟩,
 ⟨none,(.store 2 (.tmp 2) (.tmp 13)),none⟩])
 (.seq (.region [⟨some 14,(.fieldAddr 0 (.tmp 2)),none⟩,
 ⟨some 15,(.load1 (.tmp 14)),none⟩,
 ⟨some 16,(.fieldAddr 0 (.tmp 2)),none⟩,
 ⟨some 17,(.load1 (.tmp 16)),none⟩,
 ⟨some 18,(.bin .mul .prim (.tmp 15) (.tmp 17)),none⟩,
 ⟨some 19,(.bin .mul .prim (.tmp 18) (.con (.int .i64 5))),none⟩,
 ⟨some 20,(.mkSlice [(.int .i64 0)] 8 (.tmp 19) (.tmp 19)),none⟩,
 ⟨some 3,(.move (.tmp 20)),none⟩])
 (.seq (.seq (.region [⟨some 4,(.move (.con (.int .i64 0))),none⟩])
 (.join [true,false,true,true] (.block 0 (.loop [true,false,true,true,true] [true,false,true,true]
 (.seq (.seq (.region [⟨some 21,(.move (.tmp 4)),none⟩,
 ⟨some 22,(.fieldAddr 1 (.tmp 2)),none⟩,
 ⟨some 23,(.load1 (.tmp 22)),none⟩,
 ⟨some 24,(.lenS (.tmp 23)),none⟩,
 ⟨some 25,(.bin .lss .prim (.tmp 21) (.tmp 24)),none⟩])
 (.cond (.tmp 25)
 .skip
 (.exit 0)))
 (.seq (.block 1 (.seq (.region [⟨some 28,(.fieldAddr 1 (.tmp 2)),none⟩,
 ⟨some 29,(.load1 (.tmp 28)),none⟩,
 ⟨some 30,(.move (.tmp 4)),none⟩,
 ⟨some 31,(.indexAddrS 4 (.tmp 29) (.tmp 30)),none⟩,
 ⟨some 32,(.loadN 4 (.tmp 31)),none⟩,
 ⟨some 5,(.alloc [(.int .i64 0),(.int .i64 0),(.int .i64 0),(.int .i64 0)]),none⟩,
 ⟨none,(.store 4 (.tmp 5) (.tmp 32)),none⟩])
 (.seq (.region [⟨some 33,(.move (.tmp 0)),none⟩,
 ⟨some 34,(.fieldAddr 0 (.tmp 5)),none⟩,
 ⟨some 35,(.load1 (.tmp 34)),none⟩,
 ⟨some 36,(.fieldAddr 1 (.tmp 5)),none⟩,
 ⟨some 37,(.load1 (.tmp 36)),none⟩,
 ⟨some 38,(.fieldAddr 2 (.tmp 5)),none⟩,
 ⟨some 39,(.load1 (.tmp 38)),none⟩,
 ⟨some 40,(.call 40 [(.tmp 33),(.tmp 35),(.tmp 37),(.tmp 39)]),none⟩,
 ⟨some 6,(.move (.tmp 40)),none⟩])
 (.seq (.dregion [[],[],[1,0],[0,1,2],[2,1,0,3],[3,0,1,2,4],[4,2,1,0,3,5],[5,3,0,1,2,4,6],[4,2,1,0,3,5],[4,2,1,0,3,5],[9,5,3,0,1,2,4,8],[8,4,2,1,0,3,5,9,10],[10,9,5,3,0,1,2,4,8,11],[11,8,9,10,12,6,4,2,1,0,3,5,7],[7,5,3,0,1,2,4,6,12,10,9,8,11,13],[13,11,8,9,10,12,6,4,2,1,0,3,5,7,14],[4,2,1,0,3,5],[5,3,0,1,2,4,16],[16,17,14,7,5,3,0,1,2,4,6,12,10,9,8,11,13,15],[15,13,11,8,9,10,12,6,7,14,17,16,18,4,2,1,0,3,5]] [.op 0 ⟨some 41,(.move (.tmp 3)),none⟩,
 .op 1 ⟨some 42,(.move (.tmp 6)),none⟩,
 .op 2 ⟨some 43,(.indexAddrS 1 (.tmp 41) (.tmp 42)),none⟩,
 .op 3 ⟨some 44,(.load1 (.tmp 43)),none⟩,
 .op 4 ⟨some 45,(.bin .eql .prim (.tmp 44) (.con (.int .i64 0))),none⟩,
 .op 5 ⟨some 46,(.move (.tmp 45)),none⟩,
 .op 6 ⟨some 47,(.fieldAddr 1 (.tmp 2)),some (46,false)⟩,
 .op 7 ⟨some 48,(.load1 (.tmp 47)),some (46,false)⟩,
 .op 8 ⟨some 49,(.move (.tmp 3)),some (46,false)⟩,
 .op 9 ⟨some 50,(.move (.tmp 6)),some (46,false)⟩,
 .op 10 ⟨some 51,(.indexAddrS 1 (.tmp 49) (.tmp 50)),some (46,false)⟩,
 .op 11 ⟨some 52,(.load1 (.tmp 51)),some (46,false)⟩,
 .op 12 ⟨some 53,(.bin .sub .prim (.tmp 52) (.con (.int .i64 1))),some (46,false)⟩,
 .op 13 ⟨some 54,(.indexAddrS 4 (.tmp 48) (.tmp 53)),some (46,false)⟩,
 .op 14 ⟨some 55,(.fieldAddr 3 (.tmp 54)),some (46,false)⟩,
 .op 15 ⟨some 56,(.load1 (.tmp 55)),some (46,false)⟩,
 .op 16 ⟨some 57,(.fieldAddr 3 (.tmp 5)),some (46,false)⟩,
 .op 17 ⟨some 58,(.load1 (.tmp 57)),some (46,false)⟩,
 .op 18 ⟨some 59,(.bin .gtr .prim (.tmp 56) (.tmp 58)),some (46,false)⟩,
 .op 19 ⟨some 60,(.pick (.tmp 46) (.con (.bool true)) (.tmp 59)),none⟩])
 (.cond (.tmp 60)
 (.region [⟨some 61,(.move (.tmp 3)),none⟩,
 ⟨some 62,(.move (.tmp 6)),none⟩,
 ⟨some 63,(.move (.tmp 4)),none⟩,
 ⟨some 64,(.bin .add .prim (.tmp 63) (.con (.int .i64 1))),none⟩,
 ⟨some 65,(.indexAddrS 1 (.tmp 61) (.tmp 62)),none⟩,
 ⟨none,(.store 1 (.tmp 65) (.tmp 64)),none⟩])
 .skip)))))
 (.region [⟨some 26,(.move (.tmp 4)),none⟩,
 ⟨some 27,(.bin .add .prim (.tmp 26) (.con (.int .i64 1))),none⟩,
 ⟨some 4,(.move (.tmp 27)),none⟩])))))))
 (.seq (.region [⟨some 7,(.move (.con (.int .i64 0))),none⟩])
 (.block 2 (.loop [true,false,true,true,false,false,false,true] []
 (.seq (.seq (.region [⟨some 66,(.move (.tmp 7)),none⟩,
 ⟨some 67,(.move (.tmp 3)),none⟩,
 ⟨some 68,(.lenS (.tmp 67)),none⟩,
 ⟨some 69,(.bin .lss .prim (.tmp 66) (.tmp 68)),none⟩])
 (.cond (.tmp 69)
 .skip
 (.exit 2)))
 (.seq (.block 3 (.seq (.region [⟨some 72,(.move (.tmp 3)),none⟩,
 ⟨some 73,(.move (.tmp 7)),none⟩,
 ⟨some 74,(.indexAddrS 1 (.tmp 72) (.tmp 73)),none⟩,
 ⟨some 75,(.load1 (.tmp 74)),none⟩,
 ⟨some 76,(.bin .gtr .prim (.tmp 75) (.con (.int .i64 0))),none⟩])
 (.cond (.tmp 76)
 (.seq (.dregion [[],[0],[],[],[3,2],[2,3,4],[4,3,2,5],[5,2,3,4,6,0,1],[1,0,6,4,3,2,5,7],[],[7,5,2,3,4,6,0,1,8,9]] [.op 0 ⟨some 77,(.fieldAddr 1 (.tmp 2)),none⟩,
 .op 1 ⟨some 78,(.load1 (.tmp 77)),none⟩,
 .op 2 ⟨some 79,(.move (.tmp 3)),none⟩,
 .op 3 ⟨some 80,(.move (.tmp 7)),none⟩,
 .op 4 ⟨some 81,(.indexAddrS 1 (.tmp 79) (.tmp 80)),none⟩,
 .op 5 ⟨some 82,(.load1 (.tmp 81)),none⟩,
 .op 6 ⟨some 83,(.bin .sub .prim (.tmp 82) (.con (.int .i64 1))),none⟩,
 .op 7 ⟨some 84,(.indexAddrS 4 (.tmp 78) (.tmp 83)),none⟩,
 .op 8 ⟨some 85,(.loadN 4 (.tmp 84)),none⟩,
 .op 9 ⟨some 8,(.alloc [(.int .i64 0),(.int .i64 0),(.int .i64 0),(.int .i64 0)]),none⟩,
 .op 10 ⟨none,(.store 4 (.tmp 8) (.tmp 85)),none⟩])
 (.dregion [[],[],[1],[],[3],[],[5],[],[7],[],[],[10,9],[9,10,11],[11,10,9,12],[12,9,10,11,13,7,8,5,6,3,4,1,2],[2,1,4,3,6,5,8,7,13,11,10,9,12,14,0]] [.op 0 ⟨some 86,(.move (.tmp 0)),none⟩,
 .op 1 ⟨some 87,(.fieldAddr 0 (.tmp 8)),none⟩,
 .op 2 ⟨some 88,(.load1 (.tmp 87)),none⟩,
 .op 3 ⟨some 89,(.fieldAddr 1 (.tmp 8)),none⟩,
 .op 4 ⟨some 90,(.load1 (.tmp 89)),none⟩,
 .op 5 ⟨some 91,(.fieldAddr 2 (.tmp 8)),none⟩,
 .op 6 ⟨some 92,(.load1 (.tmp 91)),none⟩,
 .op 7 ⟨some 93,(.fieldAddr 3 (.tmp 8)),none⟩,
 .op 8 ⟨some 94,(.load1 (.tmp 93)),none⟩,
 .op 9 ⟨some 95,(.move (.tmp 3)),none⟩,
 .op 10 ⟨some 96,(.move (.tmp 7)),none⟩,
 .op 11 ⟨some 97,(.indexAddrS 1 (.tmp 95) (.tmp 96)),none⟩,
 .op 12 ⟨some 98,(.load1 (.tmp 97)),none⟩,
 .op 13 ⟨some 99,(.bin .sub .prim (.tmp 98) (.con (.int .i64 1))),none⟩,
 .op 14 ⟨some 100,(.build [(.int .i64 0),(.int .i64 0),(.int .i64 0),(.int .i64 0),(.int .i64 0),(.int .i64 0),(.int .i64 0)] [(0,1,(.tmp 88)),(1,1,(.tmp 90)),(2,1,(.tmp 92)),(3,1,(.tmp 94)),(4,1,(.tmp 99))]),none⟩,
 .op 15 ⟨some 101,(.call 41 [(.tmp 86),(.tmp 100)]),none⟩]))
 .skip)))
 (.region [⟨some 70,(.move (.tmp 7)),none⟩,
 ⟨some 71,(.bin .add .prim (.tmp 70) (.con (.int .i64 1))),none⟩,
 ⟨some 7,(.move (.tmp 71)),none⟩])))))))))⟩
theorem F16_ok : cfn tab F16.body Tryz.f16 = some F16 := by kernel_rfl

/- milestone/milestoneref10.Order -/
def F17 : AFn := ⟨49,[.tmp 2],
 (.seq (.region [⟨some 1,(.box 2 (.tmp 0)),none⟩,
 ⟨some 2,(.move (.con .nilSlice)),none⟩])
 (.seq (.dregion [[],[0],[],[0,1,2],[2,3,0,1],[4,2,1,0,3]] [.op 0 ⟨some 8,(.loadN 2 (.tmp 1)),none⟩,
 .op 2 ⟨some 10,(.loadN 2 (.tmp 1)),none⟩,
 .op 1 ⟨some 9,(.call 42 [(.tmp 8)]),none⟩,
 .re 2 ⟨some 10,(.loadN 2 (.tmp 1)),none⟩,
 .op 3 ⟨some 11,(.call 43 [(.tmp 10)]),none⟩,
 .op 4 ⟨some 3,(.move (.tmp 9)),none⟩,
 .op 5 ⟨some 4,(.move (.tmp 11)),none⟩])
 (.seq (.region [⟨some 5,(.move (.con .nilSlice)),none⟩])
 (.seq (.seq (.region [⟨some 6,(.move (.con (.int .i64 0))),none⟩])
 (.join [false,false,true,false,false,true] (.block 0 (.loop [false,true,false,true,true,true,true] [false,false,true,false,false,true]
 (.seq (.seq (.region [⟨some 12,(.move (.tmp 6)),none⟩,
 ⟨some 13,(.fieldAddr 1 (.tmp 1)),none⟩,
 ⟨some 14,(.load1 (.tmp 13)),none⟩,
 ⟨some 15,(.lenS (.tmp 14)),none⟩,
 ⟨some 16,(.bin .mul .prim (.con (.int .i64 2)) (.tmp 15)),none⟩,
 ⟨some 17,(.bin .leq .prim (.tmp 12) (.tmp 16)),none⟩])
 (.cond (.tmp 17)
 .skip
 (.exit 0)))
 (.seq (.block 1 (.seq (.region [⟨some 7,(.move (.con (.int .i64 0))),none⟩])
 (.block 2 (.loop [false,true,false,true,true,true,true,true] [false,true,true,true,true,true,true]
 (.seq (.seq (.region [⟨some 20,(.move (.tmp 7)),none⟩,
 ⟨some 21,(.fieldAddr 0 (.tmp 1)),none⟩,
 ⟨some 22,(.load1 (.tmp 21)),none⟩,
 ⟨some 23,(.bin .lss .prim (.tmp 20) (.tmp 22)),none⟩])
 (.cond (.tmp 23)
 .skip
 (.exit 2)))
 (.seq (.block 3 (.seq (.region [⟨some 26,(.move (.tmp 4)),none⟩,
 ⟨some 27,(.move (.tmp 7)),none⟩,
 ⟨some 28,(.indexAddrS 1 (.tmp 26) (.tmp 27)),none⟩,
 ⟨some 29,(.load1 (.tmp 28)),none⟩,
 ⟨some 30,(.un .not (.tmp 29)),none⟩,
 ⟨some 31,(.move (.tmp 30)),none⟩,
 ⟨some 32,(.move (.tmp 3)),some (31,true)⟩,
 ⟨some 33,(.move (.tmp 7)),some (31,true)⟩,
 ⟨some 34,(.call 44 [(.tmp 32),(.tmp 33)]),some (31,true)⟩,
 ⟨some 35,(.lenS (.tmp 34)),some (31,true)⟩,
 ⟨some 36,(.move (.tmp 3)),some (31,true)⟩,
 ⟨some 37,(.move (.tmp 7)),some (31,true)⟩,
 ⟨some 38,(.call 45 [(.tmp 36),(.tmp 37)]),some (31,true)⟩,
 ⟨some 39,(.lenS (.tmp 38)),some (31,true)⟩,
 ⟨some 40,(.bin .add .prim (.tmp 35) (.tmp 39)),some (31,true)⟩,
 ⟨some 41,(.move (.tmp 6)),some (31,true)⟩,
 ⟨some 42,(.bin .eql .prim (.tmp 40) (.tmp 41)),some (31,true)⟩,
 ⟨some 43,(.pick (.tmp 31) (.tmp 42) (.con (.bool false))),none⟩])
 (.cond (.tmp 43)
 (.region [⟨some 44,(.move (.tmp 5)),none⟩,
 ⟨some 45,(.move (.tmp 7)),none⟩,
 ⟨some 46,(.buildSlice [(.int .i64 0)] 1 [(0,1,(.tmp 45))]),none⟩,
 ⟨some 47,(.append 1 8 (.tmp 44) (.tmp 46)),none⟩,
 ⟨some 5,(.move (.tmp 47)),none⟩])
 .skip)))
 (.region [⟨some 24,(.move (.tmp 7)),none⟩,
 ⟨some 25,(.bin .add .prim (.tmp 24) (.con (.int .i64 1))),none⟩,
 ⟨some 7,(.move (.tmp 25)),none⟩])))))))
 (.region [⟨some 18,(.move (.tmp 6)),none⟩,
 ⟨some 19,(.bin .add .prim (.tmp 18) (.con (.int .i64 1))),none⟩,
 ⟨some 6,(.move (.tmp 19)),none⟩])))))))
 (.seq (.region [⟨some 48,(.move (.tmp 5)),none⟩,
 ⟨some 2,(.move (.tmp 48)),none⟩])
 .ret)))))⟩
theorem F17_ok : cfn tab F17.body Tryz.f17 = some F17 := by kernel_rfl

/- (*milestone/milestoneref11.work).out -/
def F18 : AFn := ⟨52,[.tmp 4],
 (.seq (.region [⟨some 4,(.move (.con .nilSlice)),none⟩])
 (.seq (.region [⟨some 5,(.move (.con .nilSlice)),none⟩])
 (.seq (.seq (.region [⟨some 6,(.move (.con (.int .i64 0))),none⟩])
 (.join [false,false,false,false,true,true] (.block 0 (.loop [true,true,false,false,false,true,true] [false,false,false,false,true,true]
 (.seq (.seq (.region [⟨some 9,(.move (.tmp 6)),none⟩,
 ⟨some 10,(.move (.tmp 0)),none⟩,
 ⟨some 11,(.nilCheck (.tmp 10)),none⟩,
 ⟨some 12,(.fieldAddr 0 (.tmp 11)),none⟩,
 ⟨some 13,(.fieldAddr 0 (.tmp 12)),none⟩,
 ⟨some 14,(.fieldAddr 0 (.tmp 13)),none⟩,
 ⟨some 15,(.load1 (.tmp 14)),none⟩,
 ⟨some 16,(.bin .lss .prim (.tmp 9) (.tmp 15)),none⟩])
 (.cond (.tmp 16)
 .skip
 (.exit 0)))
 (.seq (.block 1 (.seq (.region [⟨some 7,(.move (.con (.int .i64 0))),none⟩])
 (.block 2 (.loop [true,true,false,false,false,true,true,true] [true,true,false,false,true,true,true]
 (.seq (.seq (.region [⟨some 19,(.move (.tmp 7)),none⟩,
 ⟨some 20,(.bin .lss .prim (.tmp 19) (.con (.int .i64 5))),none⟩])
 (.cond (.tmp 20)
 .skip
 (.exit 2)))
 (.seq (.block 3 (.seq (.dregion [[],[0],[0,1],[1,0,2],[],[],[],[],[7,6,5,4],[4,5,6,7,8,2,0,1,3],[3,1,0,2,8,7,6,5,4,9],[9,4,5,6,7,8,2,0,1,3,10]] [.op 0 ⟨some 23,(.move (.tmp 0)),none⟩,
 .op 1 ⟨some 24,(.nilCheck (.tmp 23)),none⟩,
 .op 2 ⟨some 25,(.fieldAddr 6 (.tmp 24)),none⟩,
 .op 3 ⟨some 26,(.load1 (.tmp 25)),none⟩,
 .op 4 ⟨some 27,(.move (.tmp 0)),none⟩,
 .op 5 ⟨some 28,(.move (.tmp 1)),none⟩,
 .op 6 ⟨some 29,(.move (.tmp 6)),none⟩,
 .op 7 ⟨some 30,(.move (.tmp 7)),none⟩,
 .op 8 ⟨some 31,(.call 40 [(.tmp 27),(.tmp 28),(.tmp 29),(.tmp 30)]),none⟩,
 .re 3 ⟨some 26,(.load1 (.tmp 25)),none⟩,
 .op 9 ⟨some 32,(.indexAddrS 1 (.tmp 26) (.tmp 31)),none⟩,
 .op 10 ⟨some 33,(.load1 (.tmp 32)),none⟩,
 .op 11 ⟨some 8,(.move (.tmp 33)),none⟩])
 (.seq (.region [⟨some 34,(.move (.tmp 8)),none⟩,
 ⟨some 35,(.bin .gtr .prim (.tmp 34) (.con (.int .i64 0))),none⟩,
 ⟨some 36,(.move (.tmp 35)),none⟩,
 ⟨some 37,(.move (.tmp 0)),some (36,true)⟩,
 ⟨some 38,(.nilCheck (.tmp 37)),some (36,true)⟩,
 ⟨some 39,(.fieldAddr 7 (.tmp 38)),some (36,true)⟩,
 ⟨some 40,(.load1 (.tmp 39)),some (36,true)⟩,
 ⟨some 41,(.move (.tmp 6)),some (36,true)⟩,
 ⟨some 42,(.indexAddrS 1 (.tmp 40) (.tmp 41)),some (36,true)⟩,
 ⟨some 43,(.load1 (.tmp 42)),some (36,true)⟩,
 ⟨some 44,(.un .not (.tmp 43)),some (36,true)⟩,
 ⟨some 45,(.pick (.tmp 36) (.tmp 44) (.con (.bool false))),none⟩])
 (.cond (.tmp 45)
 (.region [⟨some 46,(.move (.tmp 5)),none⟩,
 ⟨some 47,(.move (.tmp 8)),none⟩,
 ⟨some 48,(.bin .sub .prim (.tmp 47) (.con (.int .i64 1))),none⟩,
 ⟨some 49,(.buildSlice [(.int .i64 0)] 1 [(0,1,(.tmp 48))]),none⟩,
 ⟨some 50,(.append 1 8 (.tmp 46) (.tmp 49)),none⟩,
 ⟨some 5,(.move (.tmp 50)),none⟩])
 .skip))))
 (.region [⟨some 21,(.move (.tmp 7)),none⟩,
 ⟨some 22,(.bin .add .prim (.tmp 21) (.con (.int .i64 1))),none⟩,
 ⟨some 7,(.move (.tmp 22)),none⟩])))))))
 (.region [⟨some 17,(.move (.tmp 6)),none⟩,
 ⟨some 18,(.bin .add .prim (.tmp 17) (.con (.int .i64 1))),none⟩,
 ⟨some 6,(.move (.tmp 18)),none⟩])))))))
 (.seq (.region [⟨some 51,(.move (.tmp 5)),none⟩,
 ⟨some 4,(.move (.tmp 51)),none⟩])
 .ret))))⟩
theorem F18_ok : cfn tab F18.body Tryz.f18 = some F18 := by kernel_rfl

/- (*milestone/milestoneref11.work).in -/
def F19 : AFn := ⟨57,[.tmp 4],
 (.seq (.region [⟨some 4,(.move (.con .nilSlice)),none⟩])
 (.seq (.region [⟨some 5,(.move (.con .nilSlice)),none⟩])
 (.seq (.seq (.region [⟨some 6,(.move (.con (.int .i64 0))),none⟩])
 (.join [false,false,false,false,true,true] (.block 0 (.loop [true,true,false,false,false,true,true] [false,false,false,false,true,true]
 (.seq (.seq (.region [⟨some 9,(.move (.tmp 6)),none⟩,
 ⟨some 10,(.move (.tmp 0)),none⟩,
 ⟨some 11,(.nilCheck (.tmp 10)),none⟩,
 ⟨some 12,(.fieldAddr 0 (.tmp 11)),none⟩,
 ⟨some 13,(.fieldAddr 0 (.tmp 12)),none⟩,
 ⟨some 14,(.fieldAddr 0 (.tmp 13)),none⟩,
 ⟨some 15,(.load1 (.tmp 14)),none⟩,
 ⟨some 16,(.bin .lss .prim (.tmp 9) (.tmp 15)),none⟩])
 (.cond (.tmp 16)
 .skip
 (.exit 0)))
 (.seq (.block 1 (.seq (.region [⟨some 7,(.move (.con (.int .i64 0))),none⟩])
 (.block 2 (.loop [true,true,false,false,false,true,true,true] [true,true,false,false,true,true,true]
 (.seq (.seq (.region [⟨some 19,(.move (.tmp 7)),none⟩,
 ⟨some 20,(.bin .lss .prim (.tmp 19) (.con (.int .i64 5))),none⟩,
 ⟨some 21,(.move (.tmp 20)),none⟩,
 ⟨some 22,(.move (.tmp 6)),some (21,true)⟩,
 ⟨some 23,(.move (.tmp 1)),some (21,true)⟩,
 ⟨some 24,(.bin .neq .prim (.tmp 22) (.tmp 23)),some (21,true)⟩,
 ⟨some 25,(.pick (.tmp 21) (.tmp 24) (.con (.bool false))),none⟩])
 (.cond (.tmp 25)
 .skip
 (.exit 2)))
 (.seq (.block 3 (.seq (.dregion [[],[0],[0,1],[1,0,2],[],[],[],[],[7,6,5,4],[4,5,6,7,8,2,0,1,3],[3,1,0,2,8,7,6,5,4,9],[9,4,5,6,7,8,2,0,1,3,10]] [.op 0 ⟨some 28,(.move (.tmp 0)),none⟩,
 .op 1 ⟨some 29,(.nilCheck (.tmp 28)),none⟩,
 .op 2 ⟨some 30,(.fieldAddr 6 (.tmp 29)),none⟩,
 .op 3 ⟨some 31,(.load1 (.tmp 30)),none⟩,
 .op 4 ⟨some 32,(.move (.tmp 0)),none⟩,
 .op 5 ⟨some 33,(.move (.tmp 6)),none⟩,
 .op 6 ⟨some 34,(.move (.tmp 1)),none⟩,
 .op 7 ⟨some 35,(.move (.tmp 7)),none⟩,
 .op 8 ⟨some 36,(.call 40 [(.tmp 32),(.tmp 33),(.tmp 34),(.tmp 35)]),none⟩,
 .re 3 ⟨some 31,(.load1 (.tmp 30)),none⟩,
 .op 9 ⟨some 37,(.indexAddrS 1 (.tmp 31) (.tmp 36)),none⟩,
 .op 10 ⟨some 38,(.load1 (.tmp 37)),none⟩,
 .op 11 ⟨some 8,(.move (.tmp 38)),none⟩])
 (.seq (.region [⟨some 39,(.move (.tmp 8)),none⟩,
 ⟨some 40,(.bin .gtr .prim (.tmp 39) (.con (.int .i64 0))),none⟩,
 ⟨some 41,(.move (.tmp 40)),none⟩,
 ⟨some 42,(.move (.tmp 0)),some (41,true)⟩,
 ⟨some 43,(.nilCheck (.tmp 42)),some (41,true)⟩,
 ⟨some 44,(.fieldAddr 7 (.tmp 43)),some (41,true)⟩,
 ⟨some 45,(.load1 (.tmp 44)),some (41,true)⟩,
 ⟨some 46,(.move (.tmp 6)),some (41,true)⟩,
 ⟨some 47,(.indexAddrS 1 (.tmp 45) (.tmp 46)),some (41,true)⟩,
 ⟨some 48,(.load1 (.tmp 47)),some (41,true)⟩,
 ⟨some 49,(.un .not (.tmp 48)),some (41,true)⟩,
 ⟨some 50,(.pick (.tmp 41) (.tmp 49) (.con (.bool false))),none⟩])
 (.cond (.tmp 50)
 (.region [⟨some 51,(.move (.tmp 5)),none⟩,
 ⟨some 52,(.move (.tmp 8)),none⟩,
 ⟨some 53,(.bin .sub .prim (.tmp 52) (.con (.int .i64 1))),none⟩,
 ⟨some 54,(.buildSlice [(.int .i64 0)] 1 [(0,1,(.tmp 53))]),none⟩,
 ⟨some 55,(.append 1 8 (.tmp 51) (.tmp 54)),none⟩,
 ⟨some 5,(.move (.tmp 55)),none⟩])
 .skip))))
 (.region [⟨some 26,(.move (.tmp 7)),none⟩,
 ⟨some 27,(.bin .add .prim (.tmp 26) (.con (.int .i64 1))),none⟩,
 ⟨some 7,(.move (.tmp 27)),none⟩])))))))
 (.region [⟨some 17,(.move (.tmp 6)),none⟩,
 ⟨some 18,(.bin .add .prim (.tmp 17) (.con (.int .i64 1))),none⟩,
 ⟨some 6,(.move (.tmp 18)),none⟩])))))))
 (.seq (.region [⟨some 56,(.move (.tmp 5)),none⟩,
 ⟨some 4,(.move (.tmp 56)),none⟩])
 .ret))))⟩
theorem F19_ok : cfn tab F19.body Tryz.f19 = some F19 := by kernel_rfl

/- (*milestone/milestoneref11.work).short -/
def F20 : AFn := ⟨87,[],
 (.seq (.dregion [[],[0],[0,1],[1,0,2],[2,0,1,3],[],[5,3,1,0,2,4],[4,2,0,1,3,5,6],[],[8],[8,9],[9,8,10],[10,8,9,11],[],[13,11,9,8,10,12],[12,10,8,9,11,13,14],[],[],[17,6,5,3,1,0,2,4,7,16],[16,7,4,2,0,1,3,5,6,18,14,13,11,9,8,10,12,15,17]] [.op 0 ⟨some 9,(.move (.tmp 0)),none⟩,
 .op 1 ⟨some 10,(.nilCheck (.tmp 9)),none⟩,
 .op 2 ⟨some 11,(.fieldAddr 0 (.tmp 10)),none⟩,
 .op 3 ⟨some 12,(.fieldAddr 3 (.tmp 11)),none⟩,
 .op 4 ⟨some 13,(.load1 (.tmp 12)),none⟩,
 .op 5 ⟨some 14,(.move (.tmp 1)),none⟩,
 .op 6 ⟨some 15,(.indexAddrS 7 (.tmp 13) (.tmp 14)),none⟩,
 .op 7 ⟨some 16,(.loadN 7 (.tmp 15)),none⟩,
 .op 8 ⟨some 17,(.move (.tmp 0)),none⟩,
 .op 9 ⟨some 18,(.nilCheck (.tmp 17)),none⟩,
 .op 10 ⟨some 19,(.fieldAddr 0 (.tmp 18)),none⟩,
 .op 11 ⟨some 20,(.fieldAddr 3 (.tmp 19)),none⟩,
 .op 12 ⟨some 21,(.load1 (.tmp 20)),none⟩,
 .op 13 ⟨some 22,(.move (.tmp 2)),none⟩,
 .op 14 ⟨some 23,(.indexAddrS 7 (.tmp 21) (.tmp 22)),none⟩,
 .op 15 ⟨some 24,(.loadN 7 (.tmp 23)),none⟩,
 .op 16 ⟨some 6,(.alloc [(.int .i64 0),(.int .i64 0),(.int .i64 0),(.int .i64 0),(.int .i64 0),(.int .i64 0),(.int .i64 0)]),none⟩,
 .op 17 ⟨some 7,(.alloc [(.int .i64 0),(.int .i64 0),(.int .i64 0),(.int .i64 0),(.int .i64 0),(.int .i64 0),(.int .i64 0)]),none⟩,
 .op 18 ⟨none,(.store 7 (.tmp 6) (.tmp 16)),none⟩,
 .re 12 ⟨some 21,(.load1 (.tmp 20)),none⟩,
 .re 15 ⟨some 24,(.loadN 7 (.tmp 23)),none⟩,
 .op 19 ⟨none,(.store 7 (.tmp 7) (.tmp 24)),none⟩])
 (.seq (.seq (.region [⟨some 25,(.fieldAddr 2 (.tmp 6)),none⟩,
 ⟨some 26,(.load1 (.tmp 25)),none⟩,
 ⟨some 27,(.fieldAddr 2 (.tmp 7)),none⟩,
 ⟨some 28,(.load1 (.tmp 27)),none⟩,
 ⟨some 29,(.bin .neq .prim (.tmp 26) (.tmp 28)),none⟩,
 ⟨some 30,(.move (.tmp 29)),none⟩,
 ⟨some 31,(.fieldAddr 1 (.tmp 7)),some (30,false)⟩,
 ⟨some 32,(.load1 (.tmp 31)),some (30,false)⟩,
 ⟨some 33,(.fieldAddr 1 (.tmp 6)),some (30,false)⟩,
 ⟨some 34,(.load1 (.tmp 33)),some (30,false)⟩,
 ⟨some 35,(.bin .eql .prim (.tmp 32) (.tmp 34)),some (30,false)⟩,
 ⟨some 36,(.pick (.tmp 30) (.con (.bool true)) (.tmp 35)),none⟩])
 (.cond (.tmp 36)
 .ret
 .skip))
 (.seq (.dregion [[],[0],[0,1],[1,0,2],[],[],[5],[],[7],[],[9],[9,10,7,8,5,6,4],[4,6,5,8,7,10,9,11,2,0,1,3],[3,1,0,2,11,9,10,7,8,5,6,4,12],[12,4,6,5,8,7,10,9,11,2,0,1,3,13]] [.op 0 ⟨some 37,(.move (.tmp 0)),none⟩,
 .op 1 ⟨some 38,(.nilCheck (.tmp 37)),none⟩,
 .op 2 ⟨some 39,(.fieldAddr 6 (.tmp 38)),none⟩,
 .op 3 ⟨some 40,(.load1 (.tmp 39)),none⟩,
 .op 4 ⟨some 41,(.move (.tmp 0)),none⟩,
 .op 5 ⟨some 42,(.fieldAddr 0 (.tmp 6)),none⟩,
 .op 6 ⟨some 43,(.load1 (.tmp 42)),none⟩,
 .op 7 ⟨some 44,(.fieldAddr 1 (.tmp 7)),none⟩,
 .op 8 ⟨some 45,(.load1 (.tmp 44)),none⟩,
 .op 9 ⟨some 46,(.fieldAddr 2 (.tmp 6)),none⟩,
 .op 10 ⟨some 47,(.load1 (.tmp 46)),none⟩,
 .op 11 ⟨some 48,(.call 40 [(.tmp 41),(.tmp 43),(.tmp 45),(.tmp 47)]),none⟩,
 .re 3 ⟨some 40,(.load1 (.tmp 39)),none⟩,
 .op 12 ⟨some 49,(.indexAddrS 1 (.tmp 40) (.tmp 48)),none⟩,
 .op 13 ⟨some 50,(.load1 (.tmp 49)),none⟩,
 .op 14 ⟨some 8,(.move (.tmp 50)),none⟩])
 (.seq (.dregion [[],[0],[0,1],[1,0,2],[2,0,1,3],[3,1,0,2,4],[4,2,0,1,3,5],[5,3,1,0,2,4,6],[1,0,2],[2,0,1,8],[8,9,6,4,2,0,1,3,5,7],[7,5,3,1,0,2,4,6,9,8,10],[10,8,9,6,4,2,0,1,3,5,7,11],[1,0,2],[2,0,1,13],[1,0,2],[2,0,1,15],[15,16,13,1,0,2,14],[14,13,16,15,17,11,7,5,3,1,0,2,4,6,9,8,10,12],[12,10,8,9,6,4,3,5,7,11,17,15,16,13,14,18,1,0,2]] [.op 0 ⟨some 51,(.move (.tmp 8)),none⟩,
 .op 1 ⟨some 52,(.bin .eql .prim (.tmp 51) (.con (.int .i64 0))),none⟩,
 .op 2 ⟨some 53,(.move (.tmp 52)),none⟩,
 .op 3 ⟨some 54,(.move (.tmp 0)),some (53,false)⟩,
 .op 4 ⟨some 55,(.nilCheck (.tmp 54)),some (53,false)⟩,
 .op 5 ⟨some 56,(.fieldAddr 0 (.tmp 55)),some (53,false)⟩,
 .op 6 ⟨some 57,(.fieldAddr 3 (.tmp 56)),some (53,false)⟩,
 .op 7 ⟨some 58,(.load1 (.tmp 57)),some (53,false)⟩,
 .op 8 ⟨some 59,(.move (.tmp 8)),some (53,false)⟩,
 .op 9 ⟨some 60,(.bin .sub .prim (.tmp 59) (.con (.int .i64 1))),some (53,false)⟩,
 .op 10 ⟨some 61,(.indexAddrS 7 (.tmp 58) (.tmp 60)),some (53,false)⟩,
 .op 11 ⟨some 62,(.fieldAddr 3 (.tmp 61)),some (53,false)⟩,
 .op 12 ⟨some 63,(.load1 (.tmp 62)),some (53,false)⟩,
 .op 13 ⟨some 64,(.fieldAddr 3 (.tmp 6)),some (53,false)⟩,
 .op 14 ⟨some 65,(.load1 (.tmp 64)),some (53,false)⟩,
 .op 15 ⟨some 66,(.fieldAddr 3 (.tmp 7)),some (53,false)⟩,
 .op 16 ⟨some 67,(.load1 (.tmp 66)),some (53,false)⟩,
 .op 17 ⟨some 68,(.bin .add .prim (.tmp 65) (.tmp 67)),some (53,false)⟩,
 .op 18 ⟨some 69,(.bin .gtr .prim (.tmp 63) (.tmp 68)),some (53,false)⟩,
 .op 19 ⟨some 70,(.pick (.tmp 53) (.con (.bool true)) (.tmp 69)),none⟩])
 (.cond (.tmp 70)
 (.region [⟨some 71,(.move (.tmp 0)),none⟩,
 ⟨some 72,(.fieldAddr 0 (.tmp 6)),none⟩,
 ⟨some 73,(.load1 (.tmp 72)),none⟩,
 ⟨some 74,(.fieldAddr 1 (.tmp 7)),none⟩,
 ⟨some 75,(.load1 (.tmp 74)),none⟩,
 ⟨some 76,(.fieldAddr 2 (.tmp 6)),none⟩,
 ⟨some 77,(.load1 (.tmp 76)),none⟩,
 ⟨some 78,(.fieldAddr 3 (.tmp 6)),none⟩,
 ⟨some 79,(.load1 (.tmp 78)),none⟩,
 ⟨some 80,(.fieldAddr 3 (.tmp 7)),none⟩,
 ⟨some 81,(.load1 (.tmp 80)),none⟩,
 ⟨some 82,(.bin .add .prim (.tmp 79) (.tmp 81)),none⟩,
 ⟨some 83,(.move (.tmp 1)),none⟩,
 ⟨some 84,(.move (.tmp 2)),none⟩,
 ⟨some 85,(.build [(.int .i64 0),(.int .i64 0),(.int .i64 0),(.int .i64 0),(.int .i64 0),(.int .i64 0),(.int .i64 0)] [(0,1,(.tmp 73)),(1,1,(.tmp 75)),(2,1,(.tmp 77)),(3,1,(.tmp 82)),(4,1,(.con (.int .i64 (-1)))),(5,1,(.tmp 83)),(6,1,(.tmp 84))]),none⟩,
 ⟨some 86,(.call 41 [(.tmp 71),(.tmp 85)]),none⟩])
 .skip)))))⟩
theorem F20_ok : cfn tab F20.body Tryz.f20 = some F20 := by kernel_rfl

/- milestone/net.Check -/
def F23 : AFn := ⟨36,[.tmp 2],
 (.seq (.region [⟨some 1,(.box 2 (.tmp 0)),none⟩,
 ⟨some 2,(.move (.con (.bool false))),none⟩])
 (.seq (.seq (.region [⟨some 6,(.fieldAddr 0 (.tmp 1)),none⟩,
 ⟨some 7,(.load1 (.tmp 6)),none⟩,
 ⟨some 8,(.bin .lss .prim (.tmp 7) (.con (.int .i64 1))),none⟩,
 ⟨some 9,(.move (.tmp 8)),none⟩,
 ⟨some 10,(.fieldAddr 0 (.tmp 1)),some (9,false)⟩,
 ⟨some 11,(.load1 (.tmp 10)),some (9,false)⟩,
 ⟨some 12,(.bin .gtr .prim (.tmp 11) (.con (.int .i64 60))),some (9,false)⟩,
 ⟨some 13,(.pick (.tmp 9) (.con (.bool true)) (.tmp 12)),none⟩,
 ⟨some 14,(.move (.tmp 13)),none⟩,
 ⟨some 15,(.fieldAddr 1 (.tmp 1)),some (14,false)⟩,
 ⟨some 16,(.load1 (.tmp 15)),some (14,false)⟩,
 ⟨some 17,(.lenS (.tmp 16)),some (14,false)⟩,
 ⟨some 18,(.bin .gtr .prim (.tmp 17) (.con (.int .i64 400))),some (14,false)⟩,
 ⟨some 19,(.pick (.tmp 14) (.con (.bool true)) (.tmp 18)),none⟩])
 (.cond (.tmp 19)
 (.seq (.region [⟨some 2,(.move (.con (.bool false))),none⟩])
 .ret)
 .skip))
 (.seq (.region [⟨some 20,(.fieldAddr 0 (.tmp 1)),none⟩,
 ⟨some 21,(.load1 (.tmp 20)),none⟩,
 ⟨some 22,(.build [(.int .i64 0)] [(0,1,(.tmp 21))]),none⟩,
 ⟨some 23,(.mkFunc (.func 46) [(.tmp 22)] []),none⟩,
 ⟨some 3,(.move (.tmp 23)),none⟩])
 (.seq (.seq (.region [⟨some 24,(.fieldAddr 1 (.tmp 1)),none⟩,
 ⟨some 25,(.load1 (.tmp 24)),none⟩,
 ⟨some 26,(.lenS (.tmp 25)),none⟩,
 ⟨some 27,(.move (.con (.int .i64 0))),none⟩])
 (.join [false,false,true] (.block 0 (.loop [false,false,false,true,false,false,false,false,false,false,false,false,false,false,false,false,false,false,false,false,false,false,false,false,false,true,true,true] [false,false,true]
 (.seq (.region [⟨some 28,(.bin .lss .prim (.tmp 27) (.tmp 26)),none⟩])
 (.seq (.cond (.tmp 28)
 .skip
 (.exit 0))
 (.seq (.block 1 (.seq (.region [⟨some 29,(.indexAddrS 4 (.tmp 25) (.tmp 27)),none⟩,
 ⟨some 30,(.loadN 4 (.tmp 29)),none⟩,
 ⟨some 5,(.alloc [(.int .i64 0),(.int .i64 0),(.int .i64 0),(.int .i64 0)]),none⟩,
 ⟨none,(.store 4 (.tmp 5) (.tmp 30)),none⟩])
 (.seq (.region [⟨some 31,(.move (.tmp 3)),none⟩,
 ⟨some 32,(.loadN 4 (.tmp 5)),none⟩,
 ⟨some 33,(.callv (.tmp 31) [(.tmp 32)]),none⟩,
 ⟨some 34,(.un .not (.tmp 33)),none⟩])
 (.cond (.tmp 34)
 (.seq (.region [⟨some 2,(.move (.con (.bool false))),none⟩])
 .ret)
 .skip))))
 (.region [⟨some 35,(.bin .add .prim (.tmp 27) (.con (.int .i64 1))),none⟩,
 ⟨some 27,(.move (.tmp 35)),none⟩]))))))))
 (.seq (.region [⟨some 2,(.move (.con (.bool true))),none⟩])
 .ret)))))⟩
theorem F23_ok : cfn tab F23.body Tryz.f23 = some F23 := by kernel_rfl

/- milestone/hier.ranks -/
def F24 : AFn := ⟨57,[.tmp 2],
 (.seq (.region [⟨some 2,(.move (.con (.bool false))),none⟩])
 (.seq (.region [⟨some 9,(.move (.tmp 0)),none⟩,
 ⟨some 10,(.lenS (.tmp 9)),none⟩,
 ⟨some 11,(.mkSlice [(.bool false)] 1 (.tmp 10) (.tmp 10)),none⟩,
 ⟨some 3,(.move (.tmp 11)),none⟩])
 (.seq (.region [⟨some 4,(.move (.con (.int .i64 (-1)))),none⟩])
 (.seq (.seq (.region [⟨some 12,(.move (.tmp 0)),none⟩,
 ⟨some 13,(.lenS (.tmp 12)),none⟩,
 ⟨some 14,(.move (.con (.int .i64 0))),none⟩])
 (.join [false,false,true,true,true] (.block 0 (.loop [true,false,false,true,true,false,false,false,false,false,false,false,true,true,true] [false,false,true,true,true]
 (.seq (.region [⟨some 15,(.bin .lss .prim (.tmp 14) (.tmp 13)),none⟩])
 (.seq (.cond (.tmp 15)
 .skip
 (.exit 0))
 (.seq (.block 1 (.seq (.region [⟨some 16,(.indexAddrS 1 (.tmp 12) (.tmp 14)),none⟩,
 ⟨some 17,(.load1 (.tmp 16)),none⟩,
 ⟨some 6,(.move (.tmp 17)),none⟩])
 (.seq (.seq (.region [⟨some 18,(.move (.tmp 6)),none⟩,
 ⟨some 19,(.bin .lss .prim (.tmp 18) (.con (.int .i64 (-1)))),none⟩,
 ⟨some 20,(.move (.tmp 19)),none⟩,
 ⟨some 21,(.move (.tmp 6)),some (20,false)⟩,
 ⟨some 22,(.move (.tmp 0)),some (20,false)⟩,
 ⟨some 23,(.lenS (.tmp 22)),some (20,false)⟩,
 ⟨some 24,(.bin .geq .prim (.tmp 21) (.tmp 23)),some (20,false)⟩,
 ⟨some 25,(.pick (.tmp 20) (.con (.bool true)) (.tmp 24)),none⟩,
 ⟨some 26,(.move (.tmp 25)),none⟩,
 ⟨some 27,(.move (.tmp 6)),some (26,false)⟩,
 ⟨some 28,(.bin .geq .prim (.tmp 27) (.con (.int .i64 0))),some (26,false)⟩,
 ⟨some 29,(.move (.tmp 28)),some (26,false)⟩,
 ⟨some 30,(.move (.tmp 3)),some (29,true)⟩,
 ⟨some 31,(.move (.tmp 6)),some (29,true)⟩,
 ⟨some 32,(.indexAddrS 1 (.tmp 30) (.tmp 31)),some (29,true)⟩,
 ⟨some 33,(.load1 (.tmp 32)),some (29,true)⟩,
 ⟨some 34,(.pick (.tmp 29) (.tmp 33) (.con (.bool false))),some (26,false)⟩,
 ⟨some 35,(.pick (.tmp 26) (.con (.bool true)) (.tmp 34)),none⟩])
 (.cond (.tmp 35)
 (.seq (.region [⟨some 2,(.move (.con (.bool false))),none⟩])
 .ret)
 .skip))
 (.seq (.seq (.region [⟨some 36,(.move (.tmp 6)),none⟩,
 ⟨some 37,(.bin .geq .prim (.tmp 36) (.con (.int .i64 0))),none⟩])
 (.join [true,false,true,true,true,false,true,false,false,false,false,false,true,true,true] (.cond (.tmp 37)
 (.region [⟨some 38,(.move (.tmp 3)),none⟩,
 ⟨some 39,(.move (.tmp 6)),none⟩,
 ⟨some 40,(.indexAddrS 1 (.tmp 38) (.tmp 39)),none⟩,
 ⟨none,(.store 1 (.tmp 40) (.con (.bool true))),none⟩])
 .skip)))
 (.region [⟨some 41,(.move (.tmp 4)),none⟩,
 ⟨some 42,(.move (.tmp 6)),none⟩,
 ⟨some 43,(.max [(.tmp 41),(.tmp 42)]),none⟩,
 ⟨some 4,(.move (.tmp 43)),none⟩])))))
 (.region [⟨some 44,(.bin .add .prim (.tmp 14) (.con (.int .i64 1))),none⟩,
 ⟨some 14,(.move (.tmp 44)),none⟩]))))))))
 (.seq (.seq (.region [⟨some 45,(.move (.tmp 3)),none⟩,
 ⟨some 46,(.move (.tmp 4)),none⟩,
 ⟨some 47,(.bin .add .prim (.tmp 46) (.con (.int .i64 1))),none⟩,
 ⟨some 48,(.slice 1 (.tmp 45) none (some (.tmp 47)) none),none⟩,
 ⟨some 49,(.lenS (.tmp 48)),none⟩,
 ⟨some 50,(.move (.con (.int .i64 0))),none⟩])
 (.join [false,false,true] (.block 2 (.loop [false,false,false,false,false,false,false,false,false,false,false,false,false,false,false,false,false,false,false,false,false,false,false,false,false,false,false,false,false,false,false,false,false,false,false,false,false,false,false,false,false,false,false,false,false,false,false,false,true,true,true] [false,false,true]
 (.seq (.region [⟨some 51,(.bin .lss .prim (.tmp 50) (.tmp 49)),none⟩])
 (.seq (.cond (.tmp 51)
 .skip
 (.exit 2))
 (.seq (.block 3 (.seq (.region [⟨some 52,(.indexAddrS 1 (.tmp 48) (.tmp 50)),none⟩,
 ⟨some 53,(.load1 (.tmp 52)),none⟩,
 ⟨some 8,(.move (.tmp 53)),none⟩])
 (.seq (.region [⟨some 54,(.move (.tmp 8)),none⟩,
 ⟨some 55,(.un .not (.tmp 54)),none⟩])
 (.cond (.tmp 55)
 (.seq (.region [⟨some 2,(.move (.con (.bool false))),none⟩])
 .ret)
 .skip))))
 (.region [⟨some 56,(.bin .add .prim (.tmp 50) (.con (.int .i64 1))),none⟩,
 ⟨some 50,(.move (.tmp 56)),none⟩]))))))))
 (.seq (.region [⟨some 2,(.move (.con (.bool true))),none⟩])
 .ret))))))⟩
theorem F24_ok : cfn tab F24.body Tryz.f24 = some F24 := by kernel_rfl

/- (milestone/hier.checker).arcs -/
def F25 : AFn := ⟨72,[.tmp 2],
 (.seq (.region [⟨some 1,(.box 6 (.tmp 0)),none⟩,
 ⟨some 2,(.move (.con (.bool false))),none⟩])
 (.seq (.dregion [[],[0],[],[2],[0,1],[1,0,4,2,3]] [.op 0 ⟨some 8,(.loadN 6 (.tmp 1)),none⟩,
 .op 1 ⟨some 9,(.mkFunc (.func 47) [(.tmp 8)] []),none⟩,
 .op 2 ⟨some 10,(.loadN 6 (.tmp 1)),none⟩,
 .op 3 ⟨some 11,(.mkFunc (.func 48) [(.tmp 10)] []),none⟩,
 .op 4 ⟨some 3,(.move (.tmp 9)),none⟩,
 .op 5 ⟨some 4,(.move (.tmp 11)),none⟩])
 (.seq (.region [⟨some 12,(.fieldAddr 0 (.tmp 1)),none⟩,
 ⟨some 13,(.fieldAddr 3 (.tmp 12)),none⟩,
 ⟨some 14,(.load1 (.tmp 13)),none⟩,
 ⟨some 15,(.lenS (.tmp 14)),none⟩,
 ⟨some 16,(.mkSlice [(.int .i64 0)] 8 (.tmp 15) (.tmp 15)),none⟩,
 ⟨some 5,(.move (.tmp 16)),none⟩])
 (.seq (.seq (.region [⟨some 17,(.fieldAddr 0 (.tmp 1)),none⟩,
 ⟨some 18,(.fieldAddr 3 (.tmp 17)),none⟩,
 ⟨some 19,(.load1 (.tmp 18)),none⟩,
 ⟨some 20,(.lenS (.tmp 19)),none⟩,
 ⟨some 21,(.move (.con (.int .i64 0))),none⟩])
 (.join [false,false,true] (.block 0 (.loop [false,false,false,true,true,true,false,false,false,false,false,false,false,false,false,false,false,false,false,true,true,true] [false,false,true]
 (.seq (.region [⟨some 22,(.bin .lss .prim (.tmp 21) (.tmp 20)),none⟩])
 (.seq (.cond (.tmp 22)
 .skip
 (.exit 0))
 (.seq (.block 1 (.seq (.region [⟨some 23,(.move (.tmp 21)),none⟩,
 ⟨some 24,(.indexAddrS 7 (.tmp 19) (.tmp 21)),none⟩,
 ⟨some 25,(.loadN 7 (.tmp 24)),none⟩,
 ⟨some 7,(.alloc [(.int .i64 0),(.int .i64 0),(.int .i64 0),(.int .i64 0),(.int .i64 0),(.int .i64 0),(.int .i64 0)]),none⟩,
 ⟨some 6,(.move (.tmp 23)),none⟩,
 ⟨none,(.store 7 (.tmp 7) (.tmp 25)),none⟩])
 (.seq (.seq (.region [⟨some 26,(.fieldAddr 3 (.tmp 7)),none⟩,
 ⟨some 27,(.load1 (.tmp 26)),none⟩,
 ⟨some 28,(.bin .lss .prim (.tmp 27) (.con (.int .i64 0))),none⟩,
 ⟨some 29,(.move (.tmp 28)),none⟩,
 ⟨some 30,(.fieldAddr 3 (.tmp 7)),some (29,false)⟩,
 ⟨some 31,(.load1 (.tmp 30)),some (29,false)⟩,
 ⟨some 32,(.bin .gtr .prim (.tmp 31) (.con (.int .i64 4398046511104))),some (29,false)⟩,
 ⟨some 33,(.pick (.tmp 29) (.con (.bool true)) (.tmp 32)),none⟩])
 (.cond (.tmp 33)
 (.seq (.region [⟨some 2,(.move (.con (.bool false))),none⟩])
 .ret)
 .skip))
 (.seq (.block 2 (.seq (.region [⟨some 35,(.move (.tmp 3)),none⟩,
 ⟨some 36,(.loadN 7 (.tmp 7)),none⟩,
 ⟨some 37,(.callv (.tmp 35) [(.tmp 36)]),none⟩,
 ⟨some 34,(.move (.tmp 37)),none⟩])
 (.cond (.tmp 34)
 (.region [⟨some 38,(.move (.tmp 5)),none⟩,
 ⟨some 39,(.move (.tmp 6)),none⟩,
 ⟨some 40,(.indexAddrS 1 (.tmp 38) (.tmp 39)),none⟩,
 ⟨none,(.store 1 (.tmp 40) (.con (.int .i64 1))),none⟩])
 (.seq (.region [⟨some 42,(.move (.tmp 4)),none⟩,
 ⟨some 43,(.move (.tmp 6)),none⟩,
 ⟨some 44,(.callv (.tmp 42) [(.tmp 43)]),none⟩,
 ⟨some 41,(.move (.tmp 44)),none⟩])
 (.cond (.tmp 41)
 (.dregion [[],[],[],[],[3],[3,4,2],[2,4,3,5],[],[],[8],[8,9,7],[7,9,8,10],[10,8,9,7,11,5,3,4,2,6],[12,11,10,9,8,7,6,5,4,3,2,1,0],[0,1,2,3,4,5,6,7,8,9,10,11,12,13]] [.op 0 ⟨some 45,(.move (.tmp 5)),none⟩,
 .op 1 ⟨some 46,(.move (.tmp 6)),none⟩,
 .op 2 ⟨some 47,(.move (.tmp 5)),none⟩,
 .op 3 ⟨some 48,(.fieldAddr 5 (.tmp 7)),none⟩,
 .op 4 ⟨some 49,(.load1 (.tmp 48)),none⟩,
 .op 5 ⟨some 50,(.indexAddrS 1 (.tmp 47) (.tmp 49)),none⟩,
 .op 6 ⟨some 51,(.load1 (.tmp 50)),none⟩,
 .op 7 ⟨some 52,(.move (.tmp 5)),none⟩,
 .op 8 ⟨some 53,(.fieldAddr 6 (.tmp 7)),none⟩,
 .op 9 ⟨some 54,(.load1 (.tmp 53)),none⟩,
 .op 10 ⟨some 55,(.indexAddrS 1 (.tmp 52) (.tmp 54)),none⟩,
 .op 11 ⟨some 56,(.load1 (.tmp 55)),none⟩,
 .op 12 ⟨some 57,(.bin .add .prim (.tmp 51) (.tmp 56)),none⟩,
 .op 13 ⟨some 58,(.indexAddrS 1 (.tmp 45) (.tmp 46)),none⟩,
 .op 14 ⟨none,(.store 1 (.tmp 58) (.tmp 57)),none⟩])
 .skip)))))
 (.seq (.region [⟨some 59,(.move (.tmp 5)),none⟩,
 ⟨some 60,(.move (.tmp 6)),none⟩,
 ⟨some 61,(.indexAddrS 1 (.tmp 59) (.tmp 60)),none⟩,
 ⟨some 62,(.load1 (.tmp 61)),none⟩,
 ⟨some 63,(.bin .lss .prim (.tmp 62) (.con (.int .i64 1))),none⟩,
 ⟨some 64,(.move (.tmp 63)),none⟩,
 ⟨some 65,(.move (.tmp 5)),some (64,false)⟩,
 ⟨some 66,(.move (.tmp 6)),some (64,false)⟩,
 ⟨some 67,(.indexAddrS 1 (.tmp 65) (.tmp 66)),some (64,false)⟩,
 ⟨some 68,(.load1 (.tmp 67)),some (64,false)⟩,
 ⟨some 69,(.bin .gtr .prim (.tmp 68) (.con (.int .i64 1000))),some (64,false)⟩,
 ⟨some 70,(.pick (.tmp 64) (.con (.bool true)) (.tmp 69)),none⟩])
 (.cond (.tmp 70)
 (.seq (.region [⟨some 2,(.move (.con (.bool false))),none⟩])
 .ret)
 .skip))))))
 (.region [⟨some 71,(.bin .add .prim (.tmp 21) (.con (.int .i64 1))),none⟩,
 ⟨some 21,(.move (.tmp 71)),none⟩]))))))))
 (.seq (.region [⟨some 2,(.move (.con (.bool true))),none⟩])
 .ret)))))⟩
theorem F25_ok : cfn tab F25.body Tryz.f25 = some F25 := by kernel_rfl

/- (milestone/hier.checker).vertex -/
def F26 : AFn := ⟨122,[.tmp 4],
 (.seq (.region [⟨some 2,(.box 6 (.tmp 0)),none⟩,
 ⟨some 4,(.move (.con (.bool false))),none⟩])
 (.seq (.seq (.dregion [[],[],[1],[1,2],[],[4,2,1,3],[3,1,2,4,5],[5,4,2,1,3,6,0],[0,6,3,1,2,4,5,7],[7,5,4,2,1,3,6,0,8],[8,0,6,3,1,2,4,5,7,9],[8,0,6,3,1,2,4,5,7,9],[9,7,5,4,2,1,3,6,0,8,11],[11,8,0,6,3,1,2,4,5,7,9,12],[8,0,6,3,1,2,4,5,7,9],[14,12,9,7,5,4,2,1,3,6,0,8,11,13],[13,11,8,0,6,3,1,2,4,5,7,9,12,14,15],[15,14,12,11,13,16,9,7,5,4,2,1,3,6,0,8,10],[10,8,0,6,3,1,2,4,5,7,9,16,13,11,12,14,15,17],[17,15,14,12,11,13,16,10,18,8,0,6,3,1,2,4,5,7,9],[9,7,5,4,2,1,3,6,0,8,18,10,16,13,11,12,14,15,17,19],[19,17,15,14,12,11,13,16,10,18,8,0,6,3,1,2,4,5,7,9,20],[20,9,7,5,4,2,1,3,6,0,8,18,10,16,13,11,12,14,15,17,19,21],[21,19,17,15,14,12,11,13,16,10,18,8,0,6,3,1,2,4,5,7,9,20,22],[19,17,15,14,12,11,13,16,10,18,8,0,6,3,1,2,4,5,7,9,20],[24,22,20,9,7,5,4,2,1,3,6,0,8,18,10,16,13,11,12,14,15,17,19,21,23],[23,21,19,17,15,14,12,11,13,16,10,18,8,0,6,3,1,2,4,5,7,9,20,22,24,25],[25,24,22,20,9,7,5,4,2,1,3,6,0,8,18,10,16,13,11,12,14,15,17,19,21,23,26],[26,23,21,19,17,15,14,12,11,13,16,10,18,8,0,6,3,1,2,4,5,7,9,20,22,24,25,27],[27,25,24,22,20,9,7,5,4,2,1,3,6,0,8,18,10,16,13,11,12,14,15,17,19,21,23,26,28],[28,26,23,21,19,17,15,14,12,11,13,16,10,18,8,0,6,3,1,2,4,5,7,9,20,22,24,25,27,29],[29,27,25,24,22,20,9,7,5,4,2,1,3,6,0,8,18,10,16,13,11,12,14,15,17,19,21,23,26,28,30],[27,25,24,22,20,9,7,5,4,2,1,3,6,0,8,18,10,16,13,11,12,14,15,17,19,21,23,26,28],[32,30,28,26,23,21,19,17,15,14,12,11,13,16,10,18,8,0,6,3,1,2,4,5,7,9,20,22,24,25,27,29,31],[31,29,27,25,24,22,20,9,7,5,4,2,1,3,6,0,8,18,10,16,13,11,12,14,15,17,19,21,23,26,28,30,32,33],[33,32,30,28,26,23,21,19,17,15,14,12,11,13,16,10,18,8,0,6,3,1,2,4,5,7,9,20,22,24,25,27,29,31,34],[34,31,29,27,25,24,22,20,9,7,5,4,2,1,3,6,0,8,18,10,16,13,11,12,14,15,17,19,21,23,26,28,30,32,33,35],[35,33,32,30,29,31,34,36,27,25,24,22,20,9,7,5,4,2,1,3,6,0,8,18,10,16,13,11,12,14,15,17,19,21,23,26,28],[28,26,23,21,22,24,25,27,36,34,31,29,30,32,33,35,37,19,17,15,14,12,11,13,16,10,18,8,0,6,3,1,2,4,5,7,9,20]] [.op 0 ⟨some 11,(.loadN 6 (.tmp 2)),none⟩,
 .op 1 ⟨some 12,(.fieldAddr 0 (.tmp 2)),none⟩,
 .op 2 ⟨some 13,(.fieldAddr 4 (.tmp 12)),none⟩,
 .op 3 ⟨some 14,(.load1 (.tmp 13)),none⟩,
 .op 4 ⟨some 15,(.move (.tmp 1)),none⟩,
 .op 5 ⟨some 16,(.indexAddrS 1 (.tmp 14) (.tmp 15)),none⟩,
 .op 6 ⟨some 17,(.load1 (.tmp 16)),none⟩,
 .op 7 ⟨some 18,(.call 49 [(.tmp 11),(.tmp 17)]),none⟩,
 .op 8 ⟨some 19,(.un .not (.tmp 18)),none⟩,
 .op 9 ⟨some 20,(.move (.tmp 19)),none⟩,
 .op 10 ⟨some 21,(.loadN 6 (.tmp 2)),some (20,false)⟩,
 .op 11 ⟨some 22,(.fieldAddr 0 (.tmp 2)),some (20,false)⟩,
 .op 12 ⟨some 23,(.fieldAddr 5 (.tmp 22)),some (20,false)⟩,
 .op 13 ⟨some 24,(.load1 (.tmp 23)),some (20,false)⟩,
 .op 14 ⟨some 25,(.move (.tmp 1)),some (20,false)⟩,
 .op 15 ⟨some 26,(.indexAddrS 1 (.tmp 24) (.tmp 25)),some (20,false)⟩,
 .op 16 ⟨some 27,(.load1 (.tmp 26)),some (20,false)⟩,
 .op 17 ⟨some 28,(.call 49 [(.tmp 21),(.tmp 27)]),some (20,false)⟩,
 .op 18 ⟨some 29,(.un .not (.tmp 28)),some (20,false)⟩,
 .op 19 ⟨some 30,(.pick (.tmp 20) (.con (.bool true)) (.tmp 29)),none⟩,
 .op 20 ⟨some 31,(.move (.tmp 30)),none⟩,
 .op 21 ⟨some 32,(.fieldAddr 0 (.tmp 2)),some (31,false)⟩,
 .op 22 ⟨some 33,(.fieldAddr 2 (.tmp 32)),some (31,false)⟩,
 .op 23 ⟨some 34,(.load1 (.tmp 33)),some (31,false)⟩,
 .op 24 ⟨some 35,(.move (.tmp 1)),some (31,false)⟩,
 .op 25 ⟨some 36,(.indexAddrS 1 (.tmp 34) (.tmp 35)),some (31,false)⟩,
 .op 26 ⟨some 37,(.load1 (.tmp 36)),some (31,false)⟩,
 .op 27 ⟨some 38,(.bin .lss .prim (.tmp 37) (.con (.int .i64 0))),some (31,false)⟩,
 .op 28 ⟨some 39,(.move (.tmp 38)),some (31,false)⟩,
 .op 29 ⟨some 40,(.fieldAddr 0 (.tmp 2)),some (39,true)⟩,
 .op 30 ⟨some 41,(.fieldAddr 5 (.tmp 40)),some (39,true)⟩,
 .op 31 ⟨some 42,(.load1 (.tmp 41)),some (39,true)⟩,
 .op 32 ⟨some 43,(.move (.tmp 1)),some (39,true)⟩,
 .op 33 ⟨some 44,(.indexAddrS 1 (.tmp 42) (.tmp 43)),some (39,true)⟩,
 .op 34 ⟨some 45,(.load1 (.tmp 44)),some (39,true)⟩,
 .op 35 ⟨some 46,(.lenS (.tmp 45)),some (39,true)⟩,
 .op 36 ⟨some 47,(.bin .gtr .prim (.tmp 46) (.con (.int .i64 0))),some (39,true)⟩,
 .op 37 ⟨some 48,(.pick (.tmp 39) (.tmp 47) (.con (.bool false))),some (31,false)⟩,
 .op 38 ⟨some 49,(.pick (.tmp 31) (.con (.bool true)) (.tmp 48)),none⟩])
 (.cond (.tmp 49)
 (.seq (.region [⟨some 4,(.move (.con (.bool false))),none⟩])
 .ret)
 .skip))
 (.seq (.seq (.region [⟨some 50,(.fieldAddr 0 (.tmp 2)),none⟩,
 ⟨some 51,(.fieldAddr 4 (.tmp 50)),none⟩,
 ⟨some 52,(.load1 (.tmp 51)),none⟩,
 ⟨some 53,(.move (.tmp 1)),none⟩,
 ⟨some 54,(.indexAddrS 1 (.tmp 52) (.tmp 53)),none⟩,
 ⟨some 55,(.load1 (.tmp 54)),none⟩,
 ⟨some 56,(.lenS (.tmp 55)),none⟩,
 ⟨some 57,(.move (.con (.int .i64 0))),none⟩])
 (.join [false,true,true,false,true] (.block 0 (.loop [false,true,true,false,false,false,false,false,false,false,false,false,false,false,false,false,false,false,false,false,false,false,false,false,false,false,false,false,false,false,false,false,false,false,false,false,false,false,false,false,false,false,false,false,false,false,false,false,false,false,false,false,false,false,false,true,true,true] [false,true,true,false,true]
 (.seq (.region [⟨some 58,(.bin .lss .prim (.tmp 57) (.tmp 56)),none⟩])
 (.seq (.cond (.tmp 58)
 .skip
 (.exit 0))
 (.seq (.block 1 (.seq (.region [⟨some 59,(.indexAddrS 1 (.tmp 55) (.tmp 57)),none⟩,
 ⟨some 60,(.load1 (.tmp 59)),none⟩,
 ⟨some 6,(.move (.tmp 60)),none⟩])
 (.seq (.region [⟨some 61,(.fieldAddr 0 (.tmp 2)),none⟩,
 ⟨some 62,(.fieldAddr 3 (.tmp 61)),none⟩,
 ⟨some 63,(.load1 (.tmp 62)),none⟩,
 ⟨some 64,(.move (.tmp 6)),none⟩,
 ⟨some 65,(.indexAddrS 7 (.tmp 63) (.tmp 64)),none⟩,
 ⟨some 66,(.loadN 7 (.tmp 65)),none⟩,
 ⟨some 7,(.alloc [(.int .i64 0),(.int .i64 0),(.int .i64 0),(.int .i64 0),(.int .i64 0),(.int .i64 0),(.int .i64 0)]),none⟩,
 ⟨none,(.store 7 (.tmp 7) (.tmp 66)),none⟩])
 (.seq (.region [⟨some 67,(.fieldAddr 0 (.tmp 7)),none⟩,
 ⟨some 68,(.load1 (.tmp 67)),none⟩,
 ⟨some 69,(.move (.tmp 1)),none⟩,
 ⟨some 70,(.bin .neq .prim (.tmp 68) (.tmp 69)),none⟩,
 ⟨some 71,(.move (.tmp 70)),none⟩,
 ⟨some 72,(.fieldAddr 1 (.tmp 7)),some (71,false)⟩,
 ⟨some 73,(.load1 (.tmp 72)),some (71,false)⟩,
 ⟨some 74,(.move (.tmp 1)),some (71,false)⟩,
 ⟨some 75,(.bin .neq .prim (.tmp 73) (.tmp 74)),some (71,false)⟩,
 ⟨some 76,(.move (.tmp 75)),some (71,false)⟩,
 ⟨some 77,(.loadN 6 (.tmp 2)),some (76,true)⟩,
 ⟨some 78,(.fieldAddr 1 (.tmp 7)),some (76,true)⟩,
 ⟨some 79,(.load1 (.tmp 78)),some (76,true)⟩,
 ⟨some 80,(.move (.tmp 1)),some (76,true)⟩,
 ⟨some 81,(.call 50 [(.tmp 77),(.tmp 79),(.tmp 80)]),some (76,true)⟩,
 ⟨some 82,(.un .not (.tmp 81)),some (76,true)⟩,
 ⟨some 83,(.pick (.tmp 76) (.tmp 82) (.con (.bool false))),some (71,false)⟩,
 ⟨some 84,(.pick (.tmp 71) (.con (.bool true)) (.tmp 83)),none⟩])
 (.cond (.tmp 84)
 (.seq (.region [⟨some 4,(.move (.con (.bool false))),none⟩])
 .ret)
 .skip)))))
 (.region [⟨some 85,(.bin .add .prim (.tmp 57) (.con (.int .i64 1))),none⟩,
 ⟨some 57,(.move (.tmp 85)),none⟩]))))))))
 (.seq (.seq (.region [⟨some 86,(.fieldAddr 0 (.tmp 2)),none⟩,
 ⟨some 87,(.fieldAddr 5 (.tmp 86)),none⟩,
 ⟨some 88,(.load1 (.tmp 87)),none⟩,
 ⟨some 89,(.move (.tmp 1)),none⟩,
 ⟨some 90,(.indexAddrS 1 (.tmp 88) (.tmp 89)),none⟩,
 ⟨some 91,(.load1 (.tmp 90)),none⟩,
 ⟨some 92,(.lenS (.tmp 91)),none⟩,
 ⟨some 93,(.move (.con (.int .i64 0))),none⟩])
 (.join [false,false,false,false,true] (.block 2 (.loop [false,true,true,false,false,false,false,false,false,false,false,false,false,false,false,false,false,false,false,false,false,false,false,false,false,false,false,false,false,false,false,false,false,false,false,false,false,false,false,false,false,false,false,false,false,false,false,false,false,false,false,false,false,false,false,false,false,false,false,false,false,false,false,false,false,false,false,false,false,false,false,false,false,false,false,false,false,false,false,false,false,false,false,false,false,false,false,false,false,false,false,true,true,true] [false,false,false,false,true]
 (.seq (.region [⟨some 94,(.bin .lss .prim (.tmp 93) (.tmp 92)),none⟩])
 (.seq (.cond (.tmp 94)
 .skip
 (.exit 2))
 (.seq (.block 3 (.seq (.region [⟨some 95,(.indexAddrS 1 (.tmp 91) (.tmp 93)),none⟩,
 ⟨some 96,(.load1 (.tmp 95)),none⟩,
 ⟨some 9,(.move (.tmp 96)),none⟩])
 (.seq (.region [⟨some 97,(.fieldAddr 0 (.tmp 2)),none⟩,
 ⟨some 98,(.fieldAddr 3 (.tmp 97)),none⟩,
 ⟨some 99,(.load1 (.tmp 98)),none⟩,
 ⟨some 100,(.move (.tmp 9)),none⟩,
 ⟨some 101,(.indexAddrS 7 (.tmp 99) (.tmp 100)),none⟩,
 ⟨some 102,(.loadN 7 (.tmp 101)),none⟩,
 ⟨some 10,(.alloc [(.int .i64 0),(.int .i64 0),(.int .i64 0),(.int .i64 0),(.int .i64 0),(.int .i64 0),(.int .i64 0)]),none⟩,
 ⟨none,(.store 7 (.tmp 10) (.tmp 102)),none⟩])
 (.seq (.region [⟨some 103,(.fieldAddr 1 (.tmp 10)),none⟩,
 ⟨some 104,(.load1 (.tmp 103)),none⟩,
 ⟨some 105,(.move (.tmp 1)),none⟩,
 ⟨some 106,(.bin .neq .prim (.tmp 104) (.tmp 105)),none⟩,
 ⟨some 107,(.move (.tmp 106)),none⟩,
 ⟨some 108,(.fieldAddr 0 (.tmp 10)),some (107,false)⟩,
 ⟨some 109,(.load1 (.tmp 108)),some (107,false)⟩,
 ⟨some 110,(.move (.tmp 1)),some (107,false)⟩,
 ⟨some 111,(.bin .eql .prim (.tmp 109) (.tmp 110)),some (107,false)⟩,
 ⟨some 112,(.pick (.tmp 107) (.con (.bool true)) (.tmp 111)),none⟩,
 ⟨some 113,(.move (.tmp 112)),none⟩,
 ⟨some 114,(.loadN 6 (.tmp 2)),some (113,false)⟩,
 ⟨some 115,(.fieldAddr 0 (.tmp 10)),some (113,false)⟩,
 ⟨some 116,(.load1 (.tmp 115)),some (113,false)⟩,
 ⟨some 117,(.move (.tmp 1)),some (113,false)⟩,
 ⟨some 118,(.call 50 [(.tmp 114),(.tmp 116),(.tmp 117)]),some (113,false)⟩,
 ⟨some 119,(.un .not (.tmp 118)),some (113,false)⟩,
 ⟨some 120,(.pick (.tmp 113) (.con (.bool true)) (.tmp 119)),none⟩])
 (.cond (.tmp 120)
 (.seq (.region [⟨some 4,(.move (.con (.bool false))),none⟩])
 .ret)
 .skip)))))
 (.region [⟨some 121,(.bin .add .prim (.tmp 93) (.con (.int .i64 1))),none⟩,
 ⟨some 93,(.move (.tmp 121)),none⟩]))))))))
 (.seq (.region [⟨some 4,(.move (.con (.bool true))),none⟩])
 .ret)))))⟩
theorem F26_ok : cfn tab F26.body Tryz.f26 = some F26 := by kernel_rfl

/- milestone/milestoneref1.Check -/
def F27 : AFn := ⟨34,[.tmp 2],
 (.seq (.region [⟨some 1,(.box 2 (.tmp 0)),none⟩,
 ⟨some 2,(.move (.con (.bool false))),none⟩])
 (.seq (.seq (.region [⟨some 4,(.fieldAddr 0 (.tmp 1)),none⟩,
 ⟨some 5,(.load1 (.tmp 4)),none⟩,
 ⟨some 6,(.bin .lss .prim (.tmp 5) (.con (.int .i64 1))),none⟩,
 ⟨some 7,(.move (.tmp 6)),none⟩,
 ⟨some 8,(.fieldAddr 0 (.tmp 1)),some (7,false)⟩,
 ⟨some 9,(.load1 (.tmp 8)),some (7,false)⟩,
 ⟨some 10,(.bin .gtr .prim (.tmp 9) (.con (.int .i64 60))),some (7,false)⟩,
 ⟨some 11,(.pick (.tmp 7) (.con (.bool true)) (.tmp 10)),none⟩,
 ⟨some 12,(.move (.tmp 11)),none⟩,
 ⟨some 13,(.fieldAddr 1 (.tmp 1)),some (12,false)⟩,
 ⟨some 14,(.load1 (.tmp 13)),some (12,false)⟩,
 ⟨some 15,(.lenS (.tmp 14)),some (12,false)⟩,
 ⟨some 16,(.bin .gtr .prim (.tmp 15) (.con (.int .i64 400))),some (12,false)⟩,
 ⟨some 17,(.pick (.tmp 12) (.con (.bool true)) (.tmp 16)),none⟩])
 (.cond (.tmp 17)
 (.seq (.region [⟨some 2,(.move (.con (.bool false))),none⟩])
 .ret)
 .skip))
 (.seq (.seq (.region [⟨some 3,(.move (.con (.int .i64 0))),none⟩])
 (.join [false,false,true] (.block 0 (.loop [false,true,false,true] [false,false,true]
 (.seq (.seq (.region [⟨some 18,(.move (.tmp 3)),none⟩,
 ⟨some 19,(.fieldAddr 1 (.tmp 1)),none⟩,
 ⟨some 20,(.load1 (.tmp 19)),none⟩,
 ⟨some 21,(.lenS (.tmp 20)),none⟩,
 ⟨some 22,(.bin .lss .prim (.tmp 18) (.tmp 21)),none⟩])
 (.cond (.tmp 22)
 .skip
 (.exit 0)))
 (.seq (.block 1 (.seq (.dregion [[],[0],[],[2,0,1],[1,0,2,3],[],[5],[5,6,3,2,0,1,4],[4,1,0,2,3,6,5,7]] [.op 0 ⟨some 25,(.fieldAddr 1 (.tmp 1)),none⟩,
 .op 1 ⟨some 26,(.load1 (.tmp 25)),none⟩,
 .op 2 ⟨some 27,(.move (.tmp 3)),none⟩,
 .op 3 ⟨some 28,(.indexAddrS 4 (.tmp 26) (.tmp 27)),none⟩,
 .op 4 ⟨some 29,(.loadN 4 (.tmp 28)),none⟩,
 .op 5 ⟨some 30,(.fieldAddr 0 (.tmp 1)),none⟩,
 .op 6 ⟨some 31,(.load1 (.tmp 30)),none⟩,
 .op 7 ⟨some 32,(.call 51 [(.tmp 29),(.tmp 31)]),none⟩,
 .op 8 ⟨some 33,(.un .not (.tmp 32)),none⟩])
 (.cond (.tmp 33)
 (.seq (.region [⟨some 2,(.move (.con (.bool false))),none⟩])
 .ret)
 .skip)))
 (.region [⟨some 23,(.move (.tmp 3)),none⟩,
 ⟨some 24,(.bin .add .prim (.tmp 23) (.con (.int .i64 1))),none⟩,
 ⟨some 3,(.move (.tmp 24)),none⟩])))))))
 (.seq (.region [⟨some 2,(.move (.con (.bool true))),none⟩])
 .ret))))⟩
theorem F27_ok : cfn tab F27.body Tryz.f27 = some F27 := by kernel_rfl

/- milestone/milestoneref11.ranks -/
def F28 : AFn := ⟨87,[.tmp 2],
 (.seq (.region [⟨some 1,(.box 6 (.tmp 0)),none⟩,
 ⟨some 2,(.move (.con (.bool false))),none⟩])
 (.seq (.region [⟨some 8,(.fieldAddr 2 (.tmp 1)),none⟩,
 ⟨some 9,(.load1 (.tmp 8)),none⟩,
 ⟨some 10,(.lenS (.tmp 9)),none⟩,
 ⟨some 3,(.move (.tmp 10)),none⟩])
 (.seq (.seq (.region [⟨some 11,(.move (.tmp 3)),none⟩,
 ⟨some 12,(.fieldAddr 0 (.tmp 1)),none⟩,
 ⟨some 13,(.fieldAddr 0 (.tmp 12)),none⟩,
 ⟨some 14,(.load1 (.tmp 13)),none⟩,
 ⟨some 15,(.bin .neq .prim (.tmp 11) (.tmp 14)),none⟩,
 ⟨some 16,(.move (.tmp 15)),none⟩,
 ⟨some 17,(.fieldAddr 4 (.tmp 1)),some (16,false)⟩,
 ⟨some 18,(.load1 (.tmp 17)),some (16,false)⟩,
 ⟨some 19,(.lenS (.tmp 18)),some (16,false)⟩,
 ⟨some 20,(.move (.tmp 3)),some (16,false)⟩,
 ⟨some 21,(.bin .neq .prim (.tmp 19) (.tmp 20)),some (16,false)⟩,
 ⟨some 22,(.pick (.tmp 16) (.con (.bool true)) (.tmp 21)),none⟩,
 ⟨some 23,(.move (.tmp 22)),none⟩,
 ⟨some 24,(.fieldAddr 5 (.tmp 1)),some (23,false)⟩,
 ⟨some 25,(.load1 (.tmp 24)),some (23,false)⟩,
 ⟨some 26,(.lenS (.tmp 25)),some (23,false)⟩,
 ⟨some 27,(.move (.tmp 3)),some (23,false)⟩,
 ⟨some 28,(.bin .neq .prim (.tmp 26) (.tmp 27)),some (23,false)⟩,
 ⟨some 29,(.pick (.tmp 23) (.con (.bool true)) (.tmp 28)),none⟩])
 (.cond (.tmp 29)
 (.seq (.region [⟨some 2,(.move (.con (.bool false))),none⟩])
 .ret)
 .skip))
 (.seq (.region [⟨some 30,(.move (.tmp 3)),none⟩,
 ⟨some 31,(.mkSlice [(.bool false)] 1 (.tmp 30) (.tmp 30)),none⟩,
 ⟨some 4,(.move (.tmp 31)),none⟩])
 (.seq (.region [⟨some 5,(.move (.con (.int .i64 0))),none⟩])
 (.seq (.seq (.region [⟨some 6,(.move (.con (.int .i64 0))),none⟩])
 (.join [false,false,true,false,true,true] (.block 0 (.loop [false,true,false,true,true,true,true] [false,false,true,false,true,true]
 (.seq (.seq (.region [⟨some 32,(.move (.tmp 6)),none⟩,
 ⟨some 33,(.move (.tmp 3)),none⟩,
 ⟨some 34,(.bin .lss .prim (.tmp 32) (.tmp 33)),none⟩])
 (.cond (.tmp 34)
 .skip
 (.exit 0)))
 (.seq (.join [false,true,true,true,true,true,true] (.block 1 (.seq (.seq (.region [⟨some 37,(.fieldAddr 2 (.tmp 1)),none⟩,
 ⟨some 38,(.load1 (.tmp 37)),none⟩,
 ⟨some 39,(.move (.tmp 6)),none⟩,
 ⟨some 40,(.indexAddrS 1 (.tmp 38) (.tmp 39)),none⟩,
 ⟨some 41,(.load1 (.tmp 40)),none⟩,
 ⟨some 42,(.bin .eql .prim (.tmp 41) (.con (.int .i64 (-1)))),none⟩])
 (.cond (.tmp 42)
 (.exit 1)
 .skip))
 (.seq (.seq (.region [⟨some 43,(.fieldAddr 2 (.tmp 1)),none⟩,
 ⟨some 44,(.load1 (.tmp 43)),none⟩,
 ⟨some 45,(.move (.tmp 6)),none⟩,
 ⟨some 46,(.indexAddrS 1 (.tmp 44) (.tmp 45)),none⟩,
 ⟨some 47,(.load1 (.tmp 46)),none⟩,
 ⟨some 48,(.bin .lss .prim (.tmp 47) (.con (.int .i64 0))),none⟩,
 ⟨some 49,(.move (.tmp 48)),none⟩,
 ⟨some 50,(.fieldAddr 2 (.tmp 1)),some (49,false)⟩,
 ⟨some 51,(.load1 (.tmp 50)),some (49,false)⟩,
 ⟨some 52,(.move (.tmp 6)),some (49,false)⟩,
 ⟨some 53,(.indexAddrS 1 (.tmp 51) (.tmp 52)),some (49,false)⟩,
 ⟨some 54,(.load1 (.tmp 53)),some (49,false)⟩,
 ⟨some 55,(.move (.tmp 3)),some (49,false)⟩,
 ⟨some 56,(.bin .geq .prim (.tmp 54) (.tmp 55)),some (49,false)⟩,
 ⟨some 57,(.pick (.tmp 49) (.con (.bool true)) (.tmp 56)),none⟩,
 ⟨some 58,(.move (.tmp 57)),none⟩,
 ⟨some 59,(.move (.tmp 4)),some (58,false)⟩,
 ⟨some 60,(.fieldAddr 2 (.tmp 1)),some (58,false)⟩,
 ⟨some 61,(.load1 (.tmp 60)),some (58,false)⟩,
 ⟨some 62,(.move (.tmp 6)),some (58,false)⟩,
 ⟨some 63,(.indexAddrS 1 (.tmp 61) (.tmp 62)),some (58,false)⟩,
 ⟨some 64,(.load1 (.tmp 63)),some (58,false)⟩,
 ⟨some 65,(.indexAddrS 1 (.tmp 59) (.tmp 64)),some (58,false)⟩,
 ⟨some 66,(.load1 (.tmp 65)),some (58,false)⟩,
 ⟨some 67,(.pick (.tmp 58) (.con (.bool true)) (.tmp 66)),none⟩])
 (.cond (.tmp 67)
 (.seq (.region [⟨some 2,(.move (.con (.bool false))),none⟩])
 .ret)
 .skip))
 (.seq (.region [⟨some 68,(.move (.tmp 4)),none⟩,
 ⟨some 69,(.fieldAddr 2 (.tmp 1)),none⟩,
 ⟨some 70,(.load1 (.tmp 69)),none⟩,
 ⟨some 71,(.move (.tmp 6)),none⟩,
 ⟨some 72,(.indexAddrS 1 (.tmp 70) (.tmp 71)),none⟩,
 ⟨some 73,(.load1 (.tmp 72)),none⟩,
 ⟨some 74,(.indexAddrS 1 (.tmp 68) (.tmp 73)),none⟩,
 ⟨none,(.store 1 (.tmp 74) (.con (.bool true))),none⟩])
 (.region [⟨some 75,(.move (.tmp 5)),none⟩,
 ⟨some 76,(.bin .add .prim (.tmp 75) (.con (.int .i64 1))),none⟩,
 ⟨some 5,(.move (.tmp 76)),none⟩]))))))
 (.region [⟨some 35,(.move (.tmp 6)),none⟩,
 ⟨some 36,(.bin .add .prim (.tmp 35) (.con (.int .i64 1))),none⟩,
 ⟨some 6,(.move (.tmp 36)),none⟩])))))))
 (.seq (.seq (.region [⟨some 7,(.move (.con (.int .i64 0))),none⟩])
 (.join [false,false,true] (.block 2 (.loop [false,false,false,false,true,true,false,true] [false,false,true]
 (.seq (.seq (.region [⟨some 77,(.move (.tmp 7)),none⟩,
 ⟨some 78,(.move (.tmp 5)),none⟩,
 ⟨some 79,(.bin .lss .prim (.tmp 77) (.tmp 78)),none⟩])
 (.cond (.tmp 79)
 .skip
 (.exit 2)))
 (.seq (.block 3 (.seq (.region [⟨some 82,(.move (.tmp 4)),none⟩,
 ⟨some 83,(.move (.tmp 7)),none⟩,
 ⟨some 84,(.indexAddrS 1 (.tmp 82) (.tmp 83)),none⟩,
 ⟨some 85,(.load1 (.tmp 84)),none⟩,
 ⟨some 86,(.un .not (.tmp 85)),none⟩])
 (.cond (.tmp 86)
 (.seq (.region [⟨some 2,(.move (.con (.bool false))),none⟩])
 .ret)
 .skip)))
 (.region [⟨some 80,(.move (.tmp 7)),none⟩,
 ⟨some 81,(.bin .add .prim (.tmp 80) (.con (.int .i64 1))),none⟩,
 ⟨some 7,(.move (.tmp 81)),none⟩])))))))
 (.seq (.region [⟨some 2,(.move (.con (.bool true))),none⟩])
 .ret))))))))⟩
theorem F28_ok : cfn tab F28.body Tryz.f28 = some F28 := by kernel_rfl

/- milestone/milestoneref11.long -/
def F29 : AFn := ⟨165,[.tmp 2],
 (.seq (.region [⟨some 1,(.box 6 (.tmp 0)),none⟩,
 ⟨some 2,(.move (.con .nilSlice)),none⟩])
 (.seq (.region [⟨some 3,(.move (.con .nilSlice)),none⟩])
 (.seq (.seq (.region [⟨some 4,(.move (.con (.int .i64 0))),none⟩])
 (.join [false,false,true,true] (.block 0 (.loop [false,true,false,true,true] [false,false,true,true]
 (.seq (.seq (.region [⟨some 9,(.move (.tmp 4)),none⟩,
 ⟨some 10,(.fieldAddr 3 (.tmp 1)),none⟩,
 ⟨some 11,(.load1 (.tmp 10)),none⟩,
 ⟨some 12,(.lenS (.tmp 11)),none⟩,
 ⟨some 13,(.bin .lss .prim (.tmp 9) (.tmp 12)),none⟩])
 (.cond (.tmp 13)
 .skip
 (.exit 0)))
 (.seq (.block 1 (.seq (.region [⟨some 16,(.fieldAddr 3 (.tmp 1)),none⟩,
 ⟨some 17,(.load1 (.tmp 16)),none⟩,
 ⟨some 18,(.move (.tmp 4)),none⟩,
 ⟨some 19,(.indexAddrS 7 (.tmp 17) (.tmp 18)),none⟩,
 ⟨some 20,(.loadN 7 (.tmp 19)),none⟩,
 ⟨some 5,(.alloc [(.int .i64 0),(.int .i64 0),(.int .i64 0),(.int .i64 0),(.int .i64 0),(.int .i64 0),(.int .i64 0)]),none⟩,
 ⟨none,(.store 7 (.tmp 5) (.tmp 20)),none⟩])
 (.seq (.seq (.region [⟨some 21,(.fieldAddr 0 (.tmp 5)),none⟩,
 ⟨some 22,(.load1 (.tmp 21)),none⟩,
 ⟨some 23,(.bin .lss .prim (.tmp 22) (.con (.int .i64 0))),none⟩,
 ⟨some 24,(.move (.tmp 23)),none⟩,
 ⟨some 25,(.fieldAddr 0 (.tmp 5)),some (24,false)⟩,
 ⟨some 26,(.load1 (.tmp 25)),some (24,false)⟩,
 ⟨some 27,(.fieldAddr 0 (.tmp 1)),some (24,false)⟩,
 ⟨some 28,(.fieldAddr 0 (.tmp 27)),some (24,false)⟩,
 ⟨some 29,(.load1 (.tmp 28)),some (24,false)⟩,
 ⟨some 30,(.bin .geq .prim (.tmp 26) (.tmp 29)),some (24,false)⟩,
 ⟨some 31,(.pick (.tmp 24) (.con (.bool true)) (.tmp 30)),none⟩,
 ⟨some 32,(.move (.tmp 31)),none⟩,
 ⟨some 33,(.fieldAddr 1 (.tmp 5)),some (32,false)⟩,
 ⟨some 34,(.load1 (.tmp 33)),some (32,false)⟩,
 ⟨some 35,(.bin .lss .prim (.tmp 34) (.con (.int .i64 0))),some (32,false)⟩,
 ⟨some 36,(.pick (.tmp 32) (.con (.bool true)) (.tmp 35)),none⟩,
 ⟨some 37,(.move (.tmp 36)),none⟩,
 ⟨some 38,(.fieldAddr 1 (.tmp 5)),some (37,false)⟩,
 ⟨some 39,(.load1 (.tmp 38)),some (37,false)⟩,
 ⟨some 40,(.fieldAddr 0 (.tmp 1)),some (37,false)⟩,
 ⟨some 41,(.fieldAddr 0 (.tmp 40)),some (37,false)⟩,
 ⟨some 42,(.load1 (.tmp 41)),some (37,false)⟩,
 ⟨some 43,(.bin .geq .prim (.tmp 39) (.tmp 42)),some (37,false)⟩,
 ⟨some 44,(.pick (.tmp 37) (.con (.bool true)) (.tmp 43)),none⟩,
 ⟨some 45,(.move (.tmp 44)),none⟩,
 ⟨some 46,(.fieldAddr 2 (.tmp 5)),some (45,false)⟩,
 ⟨some 47,(.load1 (.tmp 46)),some (45,false)⟩,
 ⟨some 48,(.bin .lss .prim (.tmp 47) (.con (.int .i64 0))),some (45,false)⟩,
 ⟨some 49,(.pick (.tmp 45) (.con (.bool true)) (.tmp 48)),none⟩,
 ⟨some 50,(.move (.tmp 49)),none⟩,
 ⟨some 51,(.fieldAddr 2 (.tmp 5)),some (50,false)⟩,
 ⟨some 52,(.load1 (.tmp 51)),some (50,false)⟩,
 ⟨some 53,(.bin .geq .prim (.tmp 52) (.con (.int .i64 5))),some (50,false)⟩,
 ⟨some 54,(.pick (.tmp 50) (.con (.bool true)) (.tmp 53)),none⟩,
 ⟨some 55,(.move (.tmp 54)),none⟩,
 ⟨some 56,(.fieldAddr 3 (.tmp 5)),some (55,false)⟩,
 ⟨some 57,(.load1 (.tmp 56)),some (55,false)⟩,
 ⟨some 58,(.bin .lss .prim (.tmp 57) (.con (.int .i64 0))),some (55,false)⟩,
 ⟨some 59,(.pick (.tmp 55) (.con (.bool true)) (.tmp 58)),none⟩,
 ⟨some 60,(.move (.tmp 59)),none⟩,
 ⟨some 61,(.fieldAddr 3 (.tmp 5)),some (60,false)⟩,
 ⟨some 62,(.load1 (.tmp 61)),some (60,false)⟩,
 ⟨some 63,(.bin .gtr .prim (.tmp 62) (.con (.int .i64 4398046511104))),some (60,false)⟩,
 ⟨some 64,(.pick (.tmp 60) (.con (.bool true)) (.tmp 63)),none⟩])
 (.cond (.tmp 64)
 (.seq (.region [⟨some 2,(.move (.con .nilSlice)),none⟩])
 .ret)
 .skip))
 (.seq (.region [⟨some 6,(.move (.con (.int .i64 1))),none⟩])
 (.seq (.seq (.region [⟨some 65,(.fieldAddr 4 (.tmp 5)),none⟩,
 ⟨some 66,(.load1 (.tmp 65)),none⟩,
 ⟨some 67,(.bin .eql .prim (.tmp 66) (.con (.int .i64 (-1)))),none⟩])
 (.join [false,true,true,true,true,false,true] (.cond (.tmp 67)
 (.seq (.seq (.region [⟨some 68,(.fieldAddr 5 (.tmp 5)),none⟩,
 ⟨some 69,(.load1 (.tmp 68)),none⟩,
 ⟨some 70,(.bin .lss .prim (.tmp 69) (.con (.int .i64 0))),none⟩,
 ⟨some 71,(.move (.tmp 70)),none⟩,
 ⟨some 72,(.fieldAddr 5 (.tmp 5)),some (71,false)⟩,
 ⟨some 73,(.load1 (.tmp 72)),some (71,false)⟩,
 ⟨some 74,(.move (.tmp 4)),some (71,false)⟩,
 ⟨some 75,(.bin .geq .prim (.tmp 73) (.tmp 74)),some (71,false)⟩,
 ⟨some 76,(.pick (.tmp 71) (.con (.bool true)) (.tmp 75)),none⟩,
 ⟨some 77,(.move (.tmp 76)),none⟩,
 ⟨some 78,(.fieldAddr 6 (.tmp 5)),some (77,false)⟩,
 ⟨some 79,(.load1 (.tmp 78)),some (77,false)⟩,
 ⟨some 80,(.bin .lss .prim (.tmp 79) (.con (.int .i64 0))),some (77,false)⟩,
 ⟨some 81,(.pick (.tmp 77) (.con (.bool true)) (.tmp 80)),none⟩,
 ⟨some 82,(.move (.tmp 81)),none⟩,
 ⟨some 83,(.fieldAddr 6 (.tmp 5)),some (82,false)⟩,
 ⟨some 84,(.load1 (.tmp 83)),some (82,false)⟩,
 ⟨some 85,(.move (.tmp 4)),some (82,false)⟩,
 ⟨some 86,(.bin .geq .prim (.tmp 84) (.tmp 85)),some (82,false)⟩,
 ⟨some 87,(.pick (.tmp 82) (.con (.bool true)) (.tmp 86)),none⟩])
 (.cond (.tmp 87)
 (.seq (.region [⟨some 2,(.move (.con .nilSlice)),none⟩])
 .ret)
 .skip))
 (.seq (.dregion [[],[0],[],[2],[2,3,0,1],[1,0,3,2,4],[],[6],[],[8],[8,9,6,7],[7,6,9,8,10],[],[],[13,4,2,3,0,1,5,12],[12,5,1,0,3,2,4,14,10,8,9,6,7,11,13]] [.op 0 ⟨some 88,(.fieldAddr 3 (.tmp 1)),none⟩,
 .op 1 ⟨some 89,(.load1 (.tmp 88)),none⟩,
 .op 2 ⟨some 90,(.fieldAddr 5 (.tmp 5)),none⟩,
 .op 3 ⟨some 91,(.load1 (.tmp 90)),none⟩,
 .op 4 ⟨some 92,(.indexAddrS 7 (.tmp 89) (.tmp 91)),none⟩,
 .op 5 ⟨some 93,(.loadN 7 (.tmp 92)),none⟩,
 .op 6 ⟨some 94,(.fieldAddr 3 (.tmp 1)),none⟩,
 .op 7 ⟨some 95,(.load1 (.tmp 94)),none⟩,
 .op 8 ⟨some 96,(.fieldAddr 6 (.tmp 5)),none⟩,
 .op 9 ⟨some 97,(.load1 (.tmp 96)),none⟩,
 .op 10 ⟨some 98,(.indexAddrS 7 (.tmp 95) (.tmp 97)),none⟩,
 .op 11 ⟨some 99,(.loadN 7 (.tmp 98)),none⟩,
 .op 12 ⟨some 7,(.alloc [(.int .i64 0),(.int .i64 0),(.int .i64 0),(.int .i64 0),(.int .i64 0),(.int .i64 0),(.int .i64 0)]),none⟩,
 .op 13 ⟨some 8,(.alloc [(.int .i64 0),(.int .i64 0),(.int .i64 0),(.int .i64 0),(.int .i64 0),(.int .i64 0),(.int .i64 0)]),none⟩,
 .op 14 ⟨none,(.store 7 (.tmp 7) (.tmp 93)),none⟩,
 .re 7 ⟨some 95,(.load1 (.tmp 94)),none⟩,
 .re 9 ⟨some 97,(.load1 (.tmp 96)),none⟩,
 .re 11 ⟨some 99,(.loadN 7 (.tmp 98)),none⟩,
 .op 15 ⟨none,(.store 7 (.tmp 8) (.tmp 99)),none⟩])
 (.seq (.seq (.region [⟨some 100,(.fieldAddr 2 (.tmp 7)),none⟩,
 ⟨some 101,(.load1 (.tmp 100)),none⟩,
 ⟨some 102,(.fieldAddr 2 (.tmp 5)),none⟩,
 ⟨some 103,(.load1 (.tmp 102)),none⟩,
 ⟨some 104,(.bin .neq .prim (.tmp 101) (.tmp 103)),none⟩,
 ⟨some 105,(.move (.tmp 104)),none⟩,
 ⟨some 106,(.fieldAddr 2 (.tmp 8)),some (105,false)⟩,
 ⟨some 107,(.load1 (.tmp 106)),some (105,false)⟩,
 ⟨some 108,(.fieldAddr 2 (.tmp 5)),some (105,false)⟩,
 ⟨some 109,(.load1 (.tmp 108)),some (105,false)⟩,
 ⟨some 110,(.bin .neq .prim (.tmp 107) (.tmp 109)),some (105,false)⟩,
 ⟨some 111,(.pick (.tmp 105) (.con (.bool true)) (.tmp 110)),none⟩,
 ⟨some 112,(.move (.tmp 111)),none⟩,
 ⟨some 113,(.fieldAddr 0 (.tmp 7)),some (112,false)⟩,
 ⟨some 114,(.load1 (.tmp 113)),some (112,false)⟩,
 ⟨some 115,(.fieldAddr 0 (.tmp 5)),some (112,false)⟩,
 ⟨some 116,(.load1 (.tmp 115)),some (112,false)⟩,
 ⟨some 117,(.bin .neq .prim (.tmp 114) (.tmp 116)),some (112,false)⟩,
 ⟨some 118,(.pick (.tmp 112) (.con (.bool true)) (.tmp 117)),none⟩,
 ⟨some 119,(.move (.tmp 118)),none⟩,
 ⟨some 120,(.fieldAddr 1 (.tmp 7)),some (119,false)⟩,
 ⟨some 121,(.load1 (.tmp 120)),some (119,false)⟩,
 ⟨some 122,(.fieldAddr 0 (.tmp 8)),some (119,false)⟩,
 ⟨some 123,(.load1 (.tmp 122)),some (119,false)⟩,
 ⟨some 124,(.bin .neq .prim (.tmp 121) (.tmp 123)),some (119,false)⟩,
 ⟨some 125,(.pick (.tmp 119) (.con (.bool true)) (.tmp 124)),none⟩,
 ⟨some 126,(.move (.tmp 125)),none⟩,
 ⟨some 127,(.fieldAddr 1 (.tmp 8)),some (126,false)⟩,
 ⟨some 128,(.load1 (.tmp 127)),some (126,false)⟩,
 ⟨some 129,(.fieldAddr 1 (.tmp 5)),some (126,false)⟩,
 ⟨some 130,(.load1 (.tmp 129)),some (126,false)⟩,
 ⟨some 131,(.bin .neq .prim (.tmp 128) (.tmp 130)),some (126,false)⟩,
 ⟨some 132,(.pick (.tmp 126) (.con (.bool true)) (.tmp 131)),none⟩,
 ⟨some 133,(.move (.tmp 132)),none⟩,
 ⟨some 134,(.fieldAddr 3 (.tmp 7)),some (133,false)⟩,
 ⟨some 135,(.load1 (.tmp 134)),some (133,false)⟩,
 ⟨some 136,(.fieldAddr 3 (.tmp 8)),some (133,false)⟩,
 ⟨some 137,(.load1 (.tmp 136)),some (133,false)⟩,
 ⟨some 138,(.bin .add .prim (.tmp 135) (.tmp 137)),some (133,false)⟩,
 ⟨some 139,(.fieldAddr 3 (.tmp 5)),some (133,false)⟩,
 ⟨some 140,(.load1 (.tmp 139)),some (133,false)⟩,
 ⟨some 141,(.bin .neq .prim (.tmp 138) (.tmp 140)),some (133,false)⟩,
 ⟨some 142,(.pick (.tmp 133) (.con (.bool true)) (.tmp 141)),none⟩])
 (.cond (.tmp 142)
 (.seq (.region [⟨some 2,(.move (.con .nilSlice)),none⟩])
 .ret)
 .skip))
 (.dregion [[],[],[1],[1,2,0],[0,2,1,3],[],[],[6],[6,7,5],[5,7,6,8],[8,6,7,5,9,3,1,2,0,4],[4,0,2,1,3,9,5,7,6,8,10]] [.op 0 ⟨some 143,(.move (.tmp 3)),none⟩,
 .op 1 ⟨some 144,(.fieldAddr 5 (.tmp 5)),none⟩,
 .op 2 ⟨some 145,(.load1 (.tmp 144)),none⟩,
 .op 3 ⟨some 146,(.indexAddrS 1 (.tmp 143) (.tmp 145)),none⟩,
 .op 4 ⟨some 147,(.load1 (.tmp 146)),none⟩,
 .op 5 ⟨some 148,(.move (.tmp 3)),none⟩,
 .op 6 ⟨some 149,(.fieldAddr 6 (.tmp 5)),none⟩,
 .op 7 ⟨some 150,(.load1 (.tmp 149)),none⟩,
 .op 8 ⟨some 151,(.indexAddrS 1 (.tmp 148) (.tmp 150)),none⟩,
 .op 9 ⟨some 152,(.load1 (.tmp 151)),none⟩,
 .op 10 ⟨some 153,(.bin .add .prim (.tmp 147) (.tmp 152)),none⟩,
 .op 11 ⟨some 6,(.move (.tmp 153)),none⟩]))))
 (.seq (.region [⟨some 154,(.loadN 6 (.tmp 1)),none⟩,
 ⟨some 155,(.loadN 7 (.tmp 5)),none⟩,
 ⟨some 156,(.call 52 [(.tmp 154),(.tmp 155)]),none⟩,
 ⟨some 157,(.un .not (.tmp 156)),none⟩])
 (.cond (.tmp 157)
 (.seq (.region [⟨some 2,(.move (.con .nilSlice)),none⟩])
 .ret)
 .skip)))))
 (.seq (.seq (.region [⟨some 158,(.move (.tmp 6)),none⟩,
 ⟨some 159,(.bin .gtr .prim (.tmp 158) (.con (.int .i64 1000))),none⟩])
 (.cond (.tmp 159)
 (.seq (.region [⟨some 2,(.move (.con .nilSlice)),none⟩])
 .ret)
 .skip))
 (.region [⟨some 160,(.move (.tmp 3)),none⟩,
 ⟨some 161,(.move (.tmp 6)),none⟩,
 ⟨some 162,(.buildSlice [(.int .i64 0)] 1 [(0,1,(.tmp 161))]),none⟩,
 ⟨some 163,(.append 1 8 (.tmp 160) (.tmp 162)),none⟩,
 ⟨some 3,(.move (.tmp 163)),none⟩])))))))
 (.region [⟨some 14,(.move (.tmp 4)),none⟩,
 ⟨some 15,(.bin .add .prim (.tmp 14) (.con (.int .i64 1))),none⟩,
 ⟨some 4,(.move (.tmp 15)),none⟩])))))))
 (.seq (.region [⟨some 164,(.move (.tmp 3)),none⟩,
 ⟨some 2,(.move (.tmp 164)),none⟩])
 .ret))))⟩
theorem F29_ok : cfn tab F29.body Tryz.f29 = some F29 := by kernel_rfl

/- milestone/milestoneref11.row -/
def F30 : AFn := ⟨111,[.tmp 8],
 (.seq (.region [⟨some 4,(.box 6 (.tmp 0)),none⟩,
 ⟨some 8,(.move (.con (.bool false))),none⟩])
 (.seq (.region [⟨some 12,(.fieldAddr 3 (.tmp 4)),none⟩,
 ⟨some 13,(.load1 (.tmp 12)),none⟩,
 ⟨some 14,(.lenS (.tmp 13)),none⟩,
 ⟨some 15,(.mkSlice [(.bool false)] 1 (.tmp 14) (.tmp 14)),none⟩,
 ⟨some 9,(.move (.tmp 15)),none⟩])
 (.seq (.seq (.region [⟨some 10,(.move (.con (.int .i64 0))),none⟩])
 (.join [false,false,false,false,false,false,false,false,true] (.block 0 (.loop [false,true,true,true,true,false,false,false,false,true,true] [false,false,false,false,false,false,false,false,true]
 (.seq (.seq (.region [⟨some 16,(.move (.tmp 10)),none⟩,
 ⟨some 17,(.move (.tmp 2)),none⟩,
 ⟨some 18,(.lenS (.tmp 17)),none⟩,
 ⟨some 19,(.bin .lss .prim (.tmp 16) (.tmp 18)),none⟩])
 (.cond (.tmp 19)
 .skip
 (.exit 0)))
 (.seq (.block 1 (.seq (.seq (.dregion [[],[],[1,0],[0,1,2],[2,1,0,3],[3,0,1,2,4],[4,2,1,0,3,5],[4,2,1,0,3,5],[7,5,3,0,1,2,4,6],[6,4,2,1,0,3,5,7,8],[4,2,1,0,3,5],[5,3,0,1,2,4,10],[10,4,2,1,0,3,5,11],[11,10,12,8,7,5,3,0,1,2,4,6,9],[9,6,7,8,12,10,11,13,4,2,1,0,3,5],[5,3,0,1,2,4,13,11,10,12,8,7,6,9,14],[14,9,6,7,8,12,10,11,13,4,2,1,0,3,5,15],[14,9,6,7,8,12,10,11,13,4,2,1,0,3,5,15],[14,9,6,7,8,12,10,11,13,4,2,1,0,3,5,15],[18,15,5,3,0,1,2,4,13,11,10,12,8,7,6,9,14,17],[17,14,9,6,7,8,12,10,11,13,4,2,1,0,3,5,15,18,19],[19,18,17,20,15,5,3,0,1,2,4,13,11,10,12,8,7,6,9,14,16],[16,14,9,6,7,8,12,10,11,13,4,2,1,0,3,5,15,20,17,18,19,21],[21,19,18,17,20,16,22,14,9,6,7,8,12,10,11,13,4,2,1,0,3,5,15]] [.op 0 ⟨some 22,(.move (.tmp 2)),none⟩,
 .op 1 ⟨some 23,(.move (.tmp 10)),none⟩,
 .op 2 ⟨some 24,(.indexAddrS 1 (.tmp 22) (.tmp 23)),none⟩,
 .op 3 ⟨some 25,(.load1 (.tmp 24)),none⟩,
 .op 4 ⟨some 26,(.bin .lss .prim (.tmp 25) (.con (.int .i64 0))),none⟩,
 .op 5 ⟨some 27,(.move (.tmp 26)),none⟩,
 .op 6 ⟨some 28,(.move (.tmp 2)),some (27,false)⟩,
 .op 7 ⟨some 29,(.move (.tmp 10)),some (27,false)⟩,
 .op 8 ⟨some 30,(.indexAddrS 1 (.tmp 28) (.tmp 29)),some (27,false)⟩,
 .op 9 ⟨some 31,(.load1 (.tmp 30)),some (27,false)⟩,
 .op 10 ⟨some 32,(.fieldAddr 3 (.tmp 4)),some (27,false)⟩,
 .op 11 ⟨some 33,(.load1 (.tmp 32)),some (27,false)⟩,
 .op 12 ⟨some 34,(.lenS (.tmp 33)),some (27,false)⟩,
 .op 13 ⟨some 35,(.bin .geq .prim (.tmp 31) (.tmp 34)),some (27,false)⟩,
 .op 14 ⟨some 36,(.pick (.tmp 27) (.con (.bool true)) (.tmp 35)),none⟩,
 .op 15 ⟨some 37,(.move (.tmp 36)),none⟩,
 .op 16 ⟨some 38,(.move (.tmp 9)),some (37,false)⟩,
 .op 17 ⟨some 39,(.move (.tmp 2)),some (37,false)⟩,
 .op 18 ⟨some 40,(.move (.tmp 10)),some (37,false)⟩,
 .op 19 ⟨some 41,(.indexAddrS 1 (.tmp 39) (.tmp 40)),some (37,false)⟩,
 .op 20 ⟨some 42,(.load1 (.tmp 41)),some (37,false)⟩,
 .op 21 ⟨some 43,(.indexAddrS 1 (.tmp 38) (.tmp 42)),some (37,false)⟩,
 .op 22 ⟨some 44,(.load1 (.tmp 43)),some (37,false)⟩,
 .op 23 ⟨some 45,(.pick (.tmp 37) (.con (.bool true)) (.tmp 44)),none⟩])
 (.cond (.tmp 45)
 (.seq (.region [⟨some 8,(.move (.con (.bool false))),none⟩])
 .ret)
 .skip))
 (.seq (.region [⟨some 46,(.move (.tmp 9)),none⟩,
 ⟨some 47,(.move (.tmp 2)),none⟩,
 ⟨some 48,(.move (.tmp 10)),none⟩,
 ⟨some 49,(.indexAddrS 1 (.tmp 47) (.tmp 48)),none⟩,
 ⟨some 50,(.load1 (.tmp 49)),none⟩,
 ⟨some 51,(.indexAddrS 1 (.tmp 46) (.tmp 50)),none⟩,
 ⟨none,(.store 1 (.tmp 51) (.con (.bool true))),none⟩])
 (.seq (.dregion [[],[0],[],[],[3,2],[2,3,4],[4,3,2,5,0,1],[1,0,5,2,3,4,6],[],[6,4,3,2,5,0,1,7,8]] [.op 0 ⟨some 52,(.fieldAddr 3 (.tmp 4)),none⟩,
 .op 1 ⟨some 53,(.load1 (.tmp 52)),none⟩,
 .op 2 ⟨some 54,(.move (.tmp 2)),none⟩,
 .op 3 ⟨some 55,(.move (.tmp 10)),none⟩,
 .op 4 ⟨some 56,(.indexAddrS 1 (.tmp 54) (.tmp 55)),none⟩,
 .op 5 ⟨some 57,(.load1 (.tmp 56)),none⟩,
 .op 6 ⟨some 58,(.indexAddrS 7 (.tmp 53) (.tmp 57)),none⟩,
 .op 7 ⟨some 59,(.loadN 7 (.tmp 58)),none⟩,
 .op 8 ⟨some 11,(.alloc [(.int .i64 0),(.int .i64 0),(.int .i64 0),(.int .i64 0),(.int .i64 0),(.int .i64 0),(.int .i64 0)]),none⟩,
 .op 9 ⟨none,(.store 7 (.tmp 11) (.tmp 59)),none⟩])
 (.seq (.seq (.region [⟨some 60,(.move (.tmp 3)),none⟩,
 ⟨some 61,(.move (.tmp 60)),none⟩,
 ⟨some 62,(.fieldAddr 0 (.tmp 11)),some (61,true)⟩,
 ⟨some 63,(.load1 (.tmp 62)),some (61,true)⟩,
 ⟨some 64,(.move (.tmp 1)),some (61,true)⟩,
 ⟨some 65,(.bin .neq .prim (.tmp 63) (.tmp 64)),some (61,true)⟩,
 ⟨some 66,(.move (.tmp 65)),some (61,true)⟩,
 ⟨some 67,(.fieldAddr 1 (.tmp 11)),some (66,false)⟩,
 ⟨some 68,(.load1 (.tmp 67)),some (66,false)⟩,
 ⟨some 69,(.move (.tmp 1)),some (66,false)⟩,
 ⟨some 70,(.bin .neq .prim (.tmp 68) (.tmp 69)),some (66,false)⟩,
 ⟨some 71,(.move (.tmp 70)),some (66,false)⟩,
 ⟨some 72,(.loadN 6 (.tmp 4)),some (71,true)⟩,
 ⟨some 73,(.fieldAddr 1 (.tmp 11)),some (71,true)⟩,
 ⟨some 74,(.load1 (.tmp 73)),some (71,true)⟩,
 ⟨some 75,(.move (.tmp 1)),some (71,true)⟩,
 ⟨some 76,(.call 53 [(.tmp 72),(.tmp 74),(.tmp 75)]),some (71,true)⟩,
 ⟨some 77,(.un .not (.tmp 76)),some (71,true)⟩,
 ⟨some 78,(.pick (.tmp 71) (.tmp 77) (.con (.bool false))),some (66,false)⟩,
 ⟨some 79,(.pick (.tmp 66) (.con (.bool true)) (.tmp 78)),some (61,true)⟩,
 ⟨some 80,(.pick (.tmp 61) (.tmp 79) (.con (.bool false))),none⟩])
 (.cond (.tmp 80)
 (.seq (.region [⟨some 8,(.move (.con (.bool false))),none⟩])
 .ret)
 .skip))
 (.seq (.region [⟨some 81,(.move (.tmp 3)),none⟩,
 ⟨some 82,(.un .not (.tmp 81)),none⟩,
 ⟨some 83,(.move (.tmp 82)),none⟩,
 ⟨some 84,(.fieldAddr 1 (.tmp 11)),some (83,true)⟩,
 ⟨some 85,(.load1 (.tmp 84)),some (83,true)⟩,
 ⟨some 86,(.move (.tmp 1)),some (83,true)⟩,
 ⟨some 87,(.bin .neq .prim (.tmp 85) (.tmp 86)),some (83,true)⟩,
 ⟨some 88,(.move (.tmp 87)),some (83,true)⟩,
 ⟨some 89,(.fieldAddr 0 (.tmp 11)),some (88,false)⟩,
 ⟨some 90,(.load1 (.tmp 89)),some (88,false)⟩,
 ⟨some 91,(.move (.tmp 1)),some (88,false)⟩,
 ⟨some 92,(.bin .eql .prim (.tmp 90) (.tmp 91)),some (88,false)⟩,
 ⟨some 93,(.pick (.tmp 88) (.con (.bool true)) (.tmp 92)),some (83,true)⟩,
 ⟨some 94,(.move (.tmp 93)),some (83,true)⟩,
 ⟨some 95,(.fieldAddr 2 (.tmp 4)),some (94,false)⟩,
 ⟨some 96,(.load1 (.tmp 95)),some (94,false)⟩,
 ⟨some 97,(.move (.tmp 1)),some (94,false)⟩,
 ⟨some 98,(.indexAddrS 1 (.tmp 96) (.tmp 97)),some (94,false)⟩,
 ⟨some 99,(.load1 (.tmp 98)),some (94,false)⟩,
 ⟨some 100,(.bin .lss .prim (.tmp 99) (.con (.int .i64 0))),some (94,false)⟩,
 ⟨some 101,(.pick (.tmp 94) (.con (.bool true)) (.tmp 100)),some (83,true)⟩,
 ⟨some 102,(.move (.tmp 101)),some (83,true)⟩,
 ⟨some 103,(.loadN 6 (.tmp 4)),some (102,false)⟩,
 ⟨some 104,(.fieldAddr 0 (.tmp 11)),some (102,false)⟩,
 ⟨some 105,(.load1 (.tmp 104)),some (102,false)⟩,
 ⟨some 106,(.move (.tmp 1)),some (102,false)⟩,
 ⟨some 107,(.call 53 [(.tmp 103),(.tmp 105),(.tmp 106)]),some (102,false)⟩,
 ⟨some 108,(.un .not (.tmp 107)),some (102,false)⟩,
 ⟨some 109,(.pick (.tmp 102) (.con (.bool true)) (.tmp 108)),some (83,true)⟩,
 ⟨some 110,(.pick (.tmp 83) (.tmp 109) (.con (.bool false))),none⟩])
 (.cond (.tmp 110)
 (.seq (.region [⟨some 8,(.move (.con (.bool false))),none⟩])
 .ret)
 .skip)))))))
 (.region [⟨some 20,(.move (.tmp 10)),none⟩,
 ⟨some 21,(.bin .add .prim (.tmp 20) (.con (.int .i64 1))),none⟩,
 ⟨some 10,(.move (.tmp 21)),none⟩])))))))
 (.seq (.region [⟨some 8,(.move (.con (.bool true))),none⟩])
 .ret))))⟩
theorem F30_ok : cfn tab F30.body Tryz.f30 = some F30 := by kernel_rfl

/- slices.Clone[[]milestone/api.Edge,milestone/api.Edge] -/
def F31 : AFn := ⟨8,[.tmp 2],
 (.seq (.region [⟨some 2,(.move (.con .nilSlice)),none⟩])
 (.seq (.seq (.region [⟨some 3,(.move (.tmp 0)),none⟩,
 ⟨some 4,(.bin .eql .nilS (.tmp 3) (.con .nilSlice)),none⟩])
 (.cond (.tmp 4)
 (.seq (.region [⟨some 2,(.move (.con .nilSlice)),none⟩])
 .ret)
 .skip))
 (.seq (.region [⟨some 5,(.buildSlice [] 0 []),none⟩,
 ⟨some 6,(.move (.tmp 0)),none⟩,
 ⟨some 7,(.append 4 32 (.tmp 5) (.tmp 6)),none⟩,
 ⟨some 2,(.move (.tmp 7)),none⟩])
 .ret)))⟩
theorem F31_ok : cfn tab F31.body Tryz.f31 = some F31 := by kernel_rfl

end Go.Proofs.YtknhlpmmalcchaaGreat
