/- Functions of the program as the interpreter takes them (printed by a program). -/
import Derived.Test.YtknhlpmmalcchaaDoorJ11Ft
set_option linter.all false
set_option linter.unusedVariables false
set_option linter.unusedSimpArgs false
namespace Go.Proofs.YtknhlpmmalcchaaDoor
open Go Go.VAI Go.Proofs
/- milestone/milestonelaw1.NetLines -/
def F11 : AFn := ⟨97,[.tmp 8],
 (.seq (.region [⟨some 8,(.move (.con (.bool false))),none⟩])
 (.seq (.seq (.region [⟨some 21,(.call 13 []),none⟩,
 ⟨some 22,(.un .not (.tmp 21)),none⟩])
 (.cond (.tmp 22)
 (.seq (.region [⟨some 8,(.move (.con (.bool false))),none⟩])
 .ret)
 .skip))
 (.seq (.region [⟨some 23,(.move (.tmp 0)),none⟩,
 ⟨some 24,(.move (.tmp 1)),none⟩,
 ⟨some 25,(.call 15 [(.tmp 23),(.tmp 24),(.con (.int .i64 2))]),none⟩,
 ⟨some 9,(.alloc [(.int .i64 0),.nilSlice]),none⟩,
 ⟨none,(.store 2 (.tmp 9) (.tmp 25)),none⟩])
 (.seq (.region [⟨some 26,(.loadN 2 (.tmp 9)),none⟩,
 ⟨some 27,(.call 27 [(.tmp 26)]),none⟩,
 ⟨some 10,(.move (.tmp 27)),none⟩])
 (.seq (.seq (.region [⟨some 28,(.move (.tmp 3)),none⟩])
 (.join [false,false,true,true,false,false,false,false,true,true,true] (.cond (.tmp 28)
 (.region [⟨some 29,(.move (.tmp 10)),none⟩,
 ⟨some 30,(.bin .add .prim (.tmp 29) (.con (.str ⟨#[101,100,103,101,10]⟩))),none⟩,
 ⟨some 10,(.move (.tmp 30)),none⟩])
 .skip)))
 (.seq (.region [⟨some 11,(.move (.con (.str ⟨#[]⟩))),none⟩,
 ⟨some 12,(.move (.con (.int .i64 0))),none⟩,
 ⟨some 13,(.move (.con (.int .i64 0))),none⟩,
 ⟨some 14,(.move (.con (.int .i64 0))),none⟩])
 (.seq (.seq (.region [⟨some 15,(.move (.con (.int .i64 0))),none⟩])
 (.join [false,false,false,true,false,false,false,false,true,true,false,true,true] (.block 0 (.loop [false,false,true,true,false,false,false,false,false,true,true,true,true,true,true,true] [false,false,false,true,false,false,false,false,true,true,false,true,true]
 (.seq (.seq (.region [⟨some 31,(.move (.tmp 15)),none⟩,
 ⟨some 32,(.move (.tmp 10)),none⟩,
 ⟨some 33,(.lenStr (.tmp 32)),none⟩,
 ⟨some 34,(.bin .lss .prim (.tmp 31) (.tmp 33)),none⟩])
 (.cond (.tmp 34)
 .skip
 (.exit 0)))
 (.seq (.join [false,false,true,true,false,false,false,false,true,true,true,true,true,true,true,true] (.block 1 (.seq (.seq (.region [⟨some 37,(.move (.tmp 10)),none⟩,
 ⟨some 38,(.move (.tmp 15)),none⟩,
 ⟨some 39,(.indexStr (.tmp 37) (.tmp 38)),none⟩,
 ⟨some 40,(.bin .neq .prim (.tmp 39) (.con (.int .u8 10))),none⟩])
 (.cond (.tmp 40)
 (.exit 1)
 .skip))
 (.seq (.region [⟨some 16,(.move (.con (.int .i64 0))),none⟩])
 (.seq (.seq (.region [⟨some 41,(.move (.tmp 14)),none⟩,
 ⟨some 42,(.move (.tmp 2)),none⟩,
 ⟨some 43,(.lenS (.tmp 42)),none⟩,
 ⟨some 44,(.bin .lss .prim (.tmp 41) (.tmp 43)),none⟩])
 (.join [false,false,true,true,false,false,false,false,true,true,true,true,true,true,true,true,true] (.cond (.tmp 44)
 (.region [⟨some 45,(.move (.tmp 2)),none⟩,
 ⟨some 46,(.move (.tmp 14)),none⟩,
 ⟨some 47,(.indexAddrS 1 (.tmp 45) (.tmp 46)),none⟩,
 ⟨some 48,(.load1 (.tmp 47)),none⟩,
 ⟨some 49,(.call 18 [(.tmp 48),(.con (.int .i64 4))]),none⟩,
 ⟨some 16,(.move (.tmp 49)),none⟩])
 .skip)))
 (.seq (.seq (.region [⟨some 17,(.move (.con (.int .i64 0))),none⟩])
 (.join [false,false,true,true,false,false,false,false,true,true,true,true,true,true,true,true,true] (.block 2 (.loop [false,false,true,true,false,false,false,false,false,true,true,true,true,true,true,true,true,true] [false,false,true,true,false,false,false,false,true,true,true,true,true,true,true,true,true]
 (.seq (.seq (.region [⟨some 50,(.move (.tmp 17)),none⟩,
 ⟨some 51,(.move (.tmp 16)),none⟩,
 ⟨some 52,(.bin .lss .prim (.tmp 50) (.tmp 51)),none⟩])
 (.cond (.tmp 52)
 .skip
 (.exit 2)))
 (.seq (.block 3 (.region [⟨some 55,(.move (.tmp 11)),none⟩,
 ⟨some 56,(.bin .add .prim (.tmp 55) (.con (.str ⟨#[10]⟩))),none⟩,
 ⟨some 11,(.move (.tmp 56)),none⟩]))
 (.region [⟨some 53,(.move (.tmp 17)),none⟩,
 ⟨some 54,(.bin .add .prim (.tmp 53) (.con (.int .i64 1))),none⟩,
 ⟨some 17,(.move (.tmp 54)),none⟩])))))))
 (.seq (.region [⟨some 57,(.move (.tmp 11)),none⟩,
 ⟨some 58,(.move (.tmp 10)),none⟩,
 ⟨some 59,(.move (.tmp 13)),none⟩,
 ⟨some 60,(.move (.tmp 15)),none⟩,
 ⟨some 61,(.bin .add .prim (.tmp 60) (.con (.int .i64 1))),none⟩,
 ⟨some 62,(.sliceStr (.tmp 58) (some (.tmp 59)) (some (.tmp 61))),none⟩,
 ⟨some 63,(.bin .add .prim (.tmp 57) (.tmp 62)),none⟩,
 ⟨some 11,(.move (.tmp 63)),none⟩])
 (.seq (.region [⟨some 64,(.move (.tmp 12)),none⟩,
 ⟨some 65,(.move (.tmp 16)),none⟩,
 ⟨some 66,(.bin .add .prim (.tmp 64) (.tmp 65)),none⟩,
 ⟨some 67,(.bin .add .prim (.tmp 66) (.con (.int .i64 1))),none⟩,
 ⟨some 12,(.move (.tmp 67)),none⟩])
 (.region [⟨some 68,(.move (.tmp 15)),none⟩,
 ⟨some 69,(.bin .add .prim (.tmp 68) (.con (.int .i64 1))),none⟩,
 ⟨some 70,(.move (.tmp 14)),none⟩,
 ⟨some 71,(.bin .add .prim (.tmp 70) (.con (.int .i64 1))),none⟩,
 ⟨some 13,(.move (.tmp 69)),none⟩,
 ⟨some 14,(.move (.tmp 71)),none⟩])))))))))
 (.region [⟨some 35,(.move (.tmp 15)),none⟩,
 ⟨some 36,(.bin .add .prim (.tmp 35) (.con (.int .i64 1))),none⟩,
 ⟨some 15,(.move (.tmp 36)),none⟩])))))))
 (.seq (.region [⟨some 73,(.move (.tmp 11)),none⟩,
 ⟨some 74,(.call 20 [(.tmp 73)]),none⟩,
 ⟨some 72,(.move (.tmp 74)),none⟩,
 ⟨some 75,(.extract (.tmp 72) 0),none⟩,
 ⟨some 76,(.extract (.tmp 72) 1),none⟩,
 ⟨some 77,(.extract (.tmp 72) 2),none⟩,
 ⟨some 18,(.alloc [(.int .i64 0),.nilSlice]),none⟩,
 ⟨none,(.store 2 (.tmp 18) (.tmp 75)),none⟩,
 ⟨some 19,(.move (.tmp 76)),none⟩,
 ⟨some 20,(.move (.tmp 77)),none⟩])
 (.seq (.seq (.region [⟨some 78,(.move (.tmp 3)),none⟩])
 (.cond (.tmp 78)
 (.seq (.region [⟨some 79,(.move (.tmp 20)),none⟩,
 ⟨some 80,(.bin .eql .prim (.tmp 79) (.con (.int .i64 2))),none⟩,
 ⟨some 81,(.move (.tmp 80)),none⟩,
 ⟨some 82,(.move (.tmp 19)),some (81,true)⟩,
 ⟨some 83,(.move (.tmp 12)),some (81,true)⟩,
 ⟨some 84,(.bin .eql .prim (.tmp 82) (.tmp 83)),some (81,true)⟩,
 ⟨some 85,(.pick (.tmp 81) (.tmp 84) (.con (.bool false))),none⟩,
 ⟨some 8,(.move (.tmp 85)),none⟩])
 .ret)
 .skip))
 (.seq (.region [⟨some 86,(.move (.tmp 20)),none⟩,
 ⟨some 87,(.bin .eql .prim (.tmp 86) (.con (.int .i64 0))),none⟩,
 ⟨some 88,(.move (.tmp 87)),none⟩,
 ⟨some 89,(.move (.tmp 19)),some (88,true)⟩,
 ⟨some 90,(.bin .eql .prim (.tmp 89) (.con (.int .i64 0))),some (88,true)⟩,
 ⟨some 91,(.pick (.tmp 88) (.tmp 90) (.con (.bool false))),none⟩,
 ⟨some 92,(.move (.tmp 91)),none⟩,
 ⟨some 93,(.loadN 2 (.tmp 18)),some (92,true)⟩,
 ⟨some 94,(.loadN 2 (.tmp 9)),some (92,true)⟩,
 ⟨some 95,(.call 22 [(.tmp 93),(.tmp 94)]),some (92,true)⟩,
 ⟨some 96,(.pick (.tmp 92) (.tmp 95) (.con (.bool false))),none⟩,
 ⟨some 8,(.move (.tmp 96)),none⟩])
 .ret))))))))))⟩
theorem F11_ok : cfn tab F11.body Tryd.f11 = some F11 := by kernel_rfl

/- milestone/milestonelaw1.known -/
def F13 : AFn := ⟨50,[.tmp 0],
 (.seq (.region [⟨some 0,(.move (.con (.bool false))),none⟩])
 (.seq (.region [⟨some 8,(.call 20 [(.con (.str ⟨#[]⟩))]),none⟩,
 ⟨some 7,(.move (.tmp 8)),none⟩,
 ⟨some 9,(.extract (.tmp 7) 0),none⟩,
 ⟨some 10,(.extract (.tmp 7) 1),none⟩,
 ⟨some 11,(.extract (.tmp 7) 2),none⟩,
 ⟨some 1,(.alloc [(.int .i64 0),.nilSlice]),none⟩,
 ⟨none,(.store 2 (.tmp 1) (.tmp 9)),none⟩,
 ⟨some 2,(.move (.tmp 10)),none⟩,
 ⟨some 3,(.move (.tmp 11)),none⟩])
 (.seq (.region [⟨some 13,(.call 20 [(.con (.str ⟨#[110,101,116,32,50,10,101,100,103,101,32,48,32,49,32,119,32,53,10]⟩))]),none⟩,
 ⟨some 12,(.move (.tmp 13)),none⟩,
 ⟨some 14,(.extract (.tmp 12) 0),none⟩,
 ⟨some 15,(.extract (.tmp 12) 1),none⟩,
 ⟨some 16,(.extract (.tmp 12) 2),none⟩,
 ⟨some 4,(.alloc [(.int .i64 0),.nilSlice]),none⟩,
 ⟨none,(.store 2 (.tmp 4) (.tmp 14)),none⟩,
 ⟨some 5,(.move (.tmp 15)),none⟩,
 ⟨some 6,(.move (.tmp 16)),none⟩])
 (.seq (.region [⟨some 17,(.move (.tmp 3)),none⟩,
 ⟨some 18,(.bin .eql .prim (.tmp 17) (.con (.int .i64 2))),none⟩,
 ⟨some 19,(.move (.tmp 18)),none⟩,
 ⟨some 20,(.move (.tmp 2)),some (19,true)⟩,
 ⟨some 21,(.bin .eql .prim (.tmp 20) (.con (.int .i64 1))),some (19,true)⟩,
 ⟨some 22,(.pick (.tmp 19) (.tmp 21) (.con (.bool false))),none⟩,
 ⟨some 23,(.move (.tmp 22)),none⟩,
 ⟨some 24,(.move (.tmp 6)),some (23,true)⟩,
 ⟨some 25,(.bin .eql .prim (.tmp 24) (.con (.int .i64 0))),some (23,true)⟩,
 ⟨some 26,(.pick (.tmp 23) (.tmp 25) (.con (.bool false))),none⟩,
 ⟨some 27,(.move (.tmp 26)),none⟩,
 ⟨some 28,(.fieldAddr 0 (.tmp 4)),some (27,true)⟩,
 ⟨some 29,(.load1 (.tmp 28)),some (27,true)⟩,
 ⟨some 30,(.bin .eql .prim (.tmp 29) (.con (.int .i64 2))),some (27,true)⟩,
 ⟨some 31,(.pick (.tmp 27) (.tmp 30) (.con (.bool false))),none⟩,
 ⟨some 32,(.move (.tmp 31)),none⟩,
 ⟨some 33,(.fieldAddr 1 (.tmp 4)),some (32,true)⟩,
 ⟨some 34,(.load1 (.tmp 33)),some (32,true)⟩,
 ⟨some 35,(.lenS (.tmp 34)),some (32,true)⟩,
 ⟨some 36,(.bin .eql .prim (.tmp 35) (.con (.int .i64 1))),some (32,true)⟩,
 ⟨some 37,(.pick (.tmp 32) (.tmp 36) (.con (.bool false))),none⟩,
 ⟨some 38,(.move (.tmp 37)),none⟩,
 ⟨some 39,(.fieldAddr 1 (.tmp 4)),some (38,true)⟩,
 ⟨some 40,(.load1 (.tmp 39)),some (38,true)⟩,
 ⟨some 41,(.indexAddrS 4 (.tmp 40) (.con (.int .i64 0))),some (38,true)⟩,
 ⟨some 42,(.fieldAddr 3 (.tmp 41)),some (38,true)⟩,
 ⟨some 43,(.load1 (.tmp 42)),some (38,true)⟩,
 ⟨some 44,(.bin .eql .prim (.tmp 43) (.con (.int .i64 5))),some (38,true)⟩,
 ⟨some 45,(.pick (.tmp 38) (.tmp 44) (.con (.bool false))),none⟩,
 ⟨some 46,(.move (.tmp 45)),none⟩,
 ⟨some 47,(.loadN 2 (.tmp 4)),some (46,true)⟩,
 ⟨some 48,(.call 16 [(.tmp 47)]),some (46,true)⟩,
 ⟨some 49,(.pick (.tmp 46) (.tmp 48) (.con (.bool false))),none⟩,
 ⟨some 0,(.move (.tmp 49)),none⟩])
 .ret))))⟩
theorem F13_ok : cfn tab F13.body Tryd.f13 = some F13 := by kernel_rfl

/- milestone/milestonelaw1.Make -/
def F15 : AFn := ⟨80,[.cell 2 true 6],
 (.seq (.region [⟨some 6,(.alloc [(.int .i64 0),.nilSlice]),none⟩])
 (.seq (.region [⟨some 11,(.move (.tmp 0)),none⟩,
 ⟨some 12,(.call 18 [(.tmp 11),(.con (.int .i64 12))]),none⟩,
 ⟨some 13,(.bin .add .prim (.con (.int .i64 1)) (.tmp 12)),none⟩,
 ⟨some 14,(.build [(.int .i64 0),.nilSlice] [(0,1,(.tmp 13))]),none⟩,
 ⟨some 7,(.alloc [(.int .i64 0),.nilSlice]),none⟩,
 ⟨none,(.store 2 (.tmp 7) (.tmp 14)),none⟩])
 (.seq (.seq (.region [⟨some 8,(.move (.con (.int .i64 0))),none⟩])
 (.join [false,false,false,false,false,false,true,true] (.block 0 (.loop [false,true,true,false,false,false,true,true,true] [false,false,false,false,false,false,true,true]
 (.seq (.seq (.region [⟨some 15,(.move (.tmp 8)),none⟩,
 ⟨some 16,(.move (.tmp 1)),none⟩,
 ⟨some 17,(.lenS (.tmp 16)),none⟩,
 ⟨some 18,(.bin .lss .prim (.tmp 15) (.tmp 17)),none⟩,
 ⟨some 19,(.move (.tmp 18)),none⟩,
 ⟨some 20,(.move (.tmp 8)),some (19,true)⟩,
 ⟨some 21,(.bin .lss .prim (.tmp 20) (.con (.int .i64 40))),some (19,true)⟩,
 ⟨some 22,(.pick (.tmp 19) (.tmp 21) (.con (.bool false))),none⟩])
 (.cond (.tmp 22)
 .skip
 (.exit 0)))
 (.seq (.block 1 (.seq (.region [⟨some 25,(.move (.tmp 1)),none⟩,
 ⟨some 26,(.move (.tmp 8)),none⟩,
 ⟨some 27,(.indexAddrS 1 (.tmp 25) (.tmp 26)),none⟩,
 ⟨some 28,(.load1 (.tmp 27)),none⟩,
 ⟨some 9,(.move (.tmp 28)),none⟩])
 (.seq (.dregion [[],[],[1],[1,2,0],[],[4],[],[6],[0,2,1,3,6,7,4,5],[],[9],[5,4,7,6,3,1,2,0,8,9,10],[],[12],[10,9,8,0,2,1,3,6,7,4,5,11,12,13],[13,12,14,10,9,11,5,4,7,6,8,0,2,1,3],[],[3,1,2,0,8,6,7,4,5,11,9,10,14,12,13,15,16]] [.op 0 ⟨some 29,(.move (.tmp 9)),none⟩,
 .op 1 ⟨some 30,(.fieldAddr 0 (.tmp 7)),none⟩,
 .op 2 ⟨some 31,(.load1 (.tmp 30)),none⟩,
 .op 4 ⟨some 33,(.move (.tmp 9)),none⟩,
 .op 5 ⟨some 34,(.bin .quo .prim (.tmp 33) (.con (.int .i64 13))),none⟩,
 .op 6 ⟨some 35,(.fieldAddr 0 (.tmp 7)),none⟩,
 .op 7 ⟨some 36,(.load1 (.tmp 35)),none⟩,
 .op 9 ⟨some 38,(.move (.tmp 9)),none⟩,
 .op 10 ⟨some 39,(.bin .quo .prim (.tmp 38) (.con (.int .i64 170))),none⟩,
 .op 12 ⟨some 41,(.move (.tmp 9)),none⟩,
 .op 13 ⟨some 42,(.bin .quo .prim (.tmp 41) (.con (.int .i64 900))),none⟩,
 .op 16 ⟨some 10,(.alloc [(.int .i64 0),(.int .i64 0),(.int .i64 0),(.int .i64 0)]),none⟩,
 .op 3 ⟨some 32,(.call 18 [(.tmp 29),(.tmp 31)]),none⟩,
 .re 7 ⟨some 36,(.load1 (.tmp 35)),none⟩,
 .op 8 ⟨some 37,(.call 18 [(.tmp 34),(.tmp 36)]),none⟩,
 .op 11 ⟨some 40,(.call 18 [(.tmp 39),(.con (.int .i64 5))]),none⟩,
 .op 14 ⟨some 43,(.call 18 [(.tmp 42),(.con (.int .i64 9))]),none⟩,
 .op 15 ⟨some 44,(.build [(.int .i64 0),(.int .i64 0),(.int .i64 0),(.int .i64 0)] [(0,1,(.tmp 32)),(1,1,(.tmp 37)),(2,1,(.tmp 40)),(3,1,(.tmp 43))]),none⟩,
 .op 17 ⟨none,(.store 4 (.tmp 10) (.tmp 44)),none⟩])
 (.seq (.seq (.region [⟨some 45,(.move (.tmp 2)),none⟩,
 ⟨some 46,(.call 18 [(.tmp 45),(.con (.int .i64 3))]),none⟩,
 ⟨some 47,(.bin .eql .prim (.tmp 46) (.con (.int .i64 0))),none⟩])
 (.join [false,true,true,false,false,false,true,true,true,true,true] (.cond (.tmp 47)
 (.region [⟨some 48,(.fieldAddr 0 (.tmp 10)),none⟩,
 ⟨some 49,(.load1 (.tmp 48)),none⟩,
 ⟨some 50,(.fieldAddr 1 (.tmp 10)),none⟩,
 ⟨some 51,(.load1 (.tmp 50)),none⟩,
 ⟨some 52,(.bin .add .prim (.tmp 49) (.tmp 51)),none⟩,
 ⟨some 53,(.call 18 [(.tmp 52),(.con (.int .i64 2))]),none⟩,
 ⟨some 54,(.fieldAddr 2 (.tmp 10)),none⟩,
 ⟨none,(.store 1 (.tmp 54) (.tmp 53)),none⟩])
 (.seq (.region [⟨some 55,(.move (.tmp 2)),none⟩,
 ⟨some 56,(.call 18 [(.tmp 55),(.con (.int .i64 3))]),none⟩,
 ⟨some 57,(.bin .eql .prim (.tmp 56) (.con (.int .i64 1))),none⟩])
 (.join [false,true,true,false,false,false,true,true,true,true,true] (.cond (.tmp 57)
 (.region [⟨some 58,(.fieldAddr 2 (.tmp 10)),none⟩,
 ⟨some 59,(.load1 (.tmp 58)),none⟩,
 ⟨some 60,(.fieldAddr 0 (.tmp 10)),none⟩,
 ⟨some 61,(.load1 (.tmp 60)),none⟩,
 ⟨some 62,(.bin .mul .prim (.tmp 59) (.tmp 61)),none⟩,
 ⟨some 63,(.call 18 [(.tmp 62),(.con (.int .i64 3))]),none⟩,
 ⟨some 64,(.fieldAddr 2 (.tmp 10)),none⟩,
 ⟨none,(.store 1 (.tmp 64) (.tmp 63)),none⟩])
 .skip))))))
 (.seq (.seq (.region [⟨some 65,(.move (.tmp 9)),none⟩,
 ⟨some 66,(.call 18 [(.tmp 65),(.con (.int .i64 31))]),none⟩,
 ⟨some 67,(.bin .eql .prim (.tmp 66) (.con (.int .i64 0))),none⟩])
 (.join [false,true,true,false,false,false,true,true,true,false,true] (.cond (.tmp 67)
 (.region [⟨some 68,(.move (.tmp 9)),none⟩,
 ⟨some 69,(.bin .quo .prim (.tmp 68) (.con (.int .i64 31))),none⟩,
 ⟨some 70,(.call 18 [(.tmp 69),(.con (.int .i64 3))]),none⟩,
 ⟨some 71,(.bin .sub .prim (.con (.int .i64 2147483647)) (.tmp 70)),none⟩,
 ⟨some 72,(.fieldAddr 3 (.tmp 10)),none⟩,
 ⟨none,(.store 1 (.tmp 72) (.tmp 71)),none⟩])
 .skip)))
 (.region [⟨some 73,(.fieldAddr 1 (.tmp 7)),none⟩,
 ⟨some 74,(.load1 (.tmp 73)),none⟩,
 ⟨some 75,(.loadN 4 (.tmp 10)),none⟩,
 ⟨some 76,(.buildSlice [(.int .i64 0),(.int .i64 0),(.int .i64 0),(.int .i64 0)] 1 [(0,4,(.tmp 75))]),none⟩,
 ⟨some 77,(.append 4 32 (.tmp 74) (.tmp 76)),none⟩,
 ⟨some 78,(.fieldAddr 1 (.tmp 7)),none⟩,
 ⟨none,(.store 1 (.tmp 78) (.tmp 77)),none⟩]))))))
 (.region [⟨some 23,(.move (.tmp 8)),none⟩,
 ⟨some 24,(.bin .add .prim (.tmp 23) (.con (.int .i64 1))),none⟩,
 ⟨some 8,(.move (.tmp 24)),none⟩])))))))
 (.seq (.region [⟨some 79,(.loadN 2 (.tmp 7)),none⟩,
 ⟨none,(.store 2 (.tmp 6) (.tmp 79)),none⟩])
 .ret))))⟩
theorem F15_ok : cfn tab F15.body Tryd.f15 = some F15 := by kernel_rfl

/- milestone/net.Check -/
def F16 : AFn := ⟨36,[.tmp 2],
 (.seq (.region [⟨some 1,(.box 2 (.tmp 0)),none⟩,
 ⟨some 2,(.move (.con (.bool false))),none⟩])
 (.seq (.seq (.region [⟨some 6,(.fieldAddr 0 (.tmp 1)),none⟩,
 ⟨some 7,(.load1 (.tmp 6)),none⟩,
 ⟨some 8,(.bin .lss .prim (.tmp 7) (.con (.int .i64 1))),none⟩,
 ⟨some 9,(.move (.tmp 8)),none⟩,
 ⟨some 10,(.fieldAddr 0 (.tmp 1)),some (9,false)⟩,
 ⟨some 11,(.load1 (.tmp 10)),some (9,false)⟩,
 ⟨some 12,(.bin .gtr .prim (.tmp 11) (.con (.int .i64 60))),some (9,false)⟩,
 ⟨some 13,(.pick (.tmp 9) (.con (.bool true)) (.tmp 12)),none⟩,
 ⟨some 14,(.move (.tmp 13)),none⟩,
 ⟨some 15,(.fieldAddr 1 (.tmp 1)),some (14,false)⟩,
 ⟨some 16,(.load1 (.tmp 15)),some (14,false)⟩,
 ⟨some 17,(.lenS (.tmp 16)),some (14,false)⟩,
 ⟨some 18,(.bin .gtr .prim (.tmp 17) (.con (.int .i64 400))),some (14,false)⟩,
 ⟨some 19,(.pick (.tmp 14) (.con (.bool true)) (.tmp 18)),none⟩])
 (.cond (.tmp 19)
 (.seq (.region [⟨some 2,(.move (.con (.bool false))),none⟩])
 .ret)
 .skip))
 (.seq (.region [⟨some 20,(.fieldAddr 0 (.tmp 1)),none⟩,
 ⟨some 21,(.load1 (.tmp 20)),none⟩,
 ⟨some 22,(.build [(.int .i64 0)] [(0,1,(.tmp 21))]),none⟩,
 ⟨some 23,(.mkFunc (.func 28) [(.tmp 22)] []),none⟩,
 ⟨some 3,(.move (.tmp 23)),none⟩])
 (.seq (.seq (.region [⟨some 24,(.fieldAddr 1 (.tmp 1)),none⟩,
 ⟨some 25,(.load1 (.tmp 24)),none⟩,
 ⟨some 26,(.lenS (.tmp 25)),none⟩,
 ⟨some 27,(.move (.con (.int .i64 0))),none⟩])
 (.join [false,false,true] (.block 0 (.loop [false,false,false,true,false,false,false,false,false,false,false,false,false,false,false,false,false,false,false,false,false,false,false,false,false,true,true,true] [false,false,true]
 (.seq (.region [⟨some 28,(.bin .lss .prim (.tmp 27) (.tmp 26)),none⟩])
 (.seq (.cond (.tmp 28)
 .skip
 (.exit 0))
 (.seq (.block 1 (.seq (.region [⟨some 29,(.indexAddrS 4 (.tmp 25) (.tmp 27)),none⟩,
 ⟨some 30,(.loadN 4 (.tmp 29)),none⟩,
 ⟨some 5,(.alloc [(.int .i64 0),(.int .i64 0),(.int .i64 0),(.int .i64 0)]),none⟩,
 ⟨none,(.store 4 (.tmp 5) (.tmp 30)),none⟩])
 (.seq (.region [⟨some 31,(.move (.tmp 3)),none⟩,
 ⟨some 32,(.loadN 4 (.tmp 5)),none⟩,
 ⟨some 33,(.callv (.tmp 31) [(.tmp 32)]),none⟩,
 ⟨some 34,(.un .not (.tmp 33)),none⟩])
 (.cond (.tmp 34)
 (.seq (.region [⟨some 2,(.move (.con (.bool false))),none⟩])
 .ret)
 .skip))))
 (.region [⟨some 35,(.bin .add .prim (.tmp 27) (.con (.int .i64 1))),none⟩,
 ⟨some 27,(.move (.tmp 35)),none⟩]))))))))
 (.seq (.region [⟨some 2,(.move (.con (.bool true))),none⟩])
 .ret)))))⟩
theorem F16_ok : cfn tab F16.body Tryd.f16 = some F16 := by kernel_rfl

/- milestone/milestonelaw1.within -/
def F18 : AFn := ⟨15,[.tmp 4],
 (.seq (.region [⟨some 4,(.move (.con (.int .i64 0))),none⟩])
 (.seq (.region [⟨some 6,(.move (.tmp 0)),none⟩,
 ⟨some 7,(.move (.tmp 1)),none⟩,
 ⟨some 8,(.bin .rem .prim (.tmp 6) (.tmp 7)),none⟩,
 ⟨some 5,(.move (.tmp 8)),none⟩])
 (.seq (.seq (.region [⟨some 9,(.move (.tmp 5)),none⟩,
 ⟨some 10,(.bin .lss .prim (.tmp 9) (.con (.int .i64 0))),none⟩])
 (.join [false,false,false,false,true,true] (.cond (.tmp 10)
 (.region [⟨some 11,(.move (.tmp 5)),none⟩,
 ⟨some 12,(.move (.tmp 1)),none⟩,
 ⟨some 13,(.bin .add .prim (.tmp 11) (.tmp 12)),none⟩,
 ⟨some 5,(.move (.tmp 13)),none⟩])
 .skip)))
 (.seq (.region [⟨some 14,(.move (.tmp 5)),none⟩,
 ⟨some 4,(.move (.tmp 14)),none⟩])
 .ret))))⟩
theorem F18_ok : cfn tab F18.body Tryd.f18 = some F18 := by kernel_rfl

/- milestone/net.Parse -/
def F20 : AFn := ⟨40,[.cell 2 true 2,.tmp 3,.tmp 4],
 (.seq (.region [⟨some 2,(.alloc [(.int .i64 0),.nilSlice]),none⟩,
 ⟨some 3,(.move (.con (.int .i64 0))),none⟩,
 ⟨some 4,(.move (.con (.int .i64 0))),none⟩])
 (.seq (.seq (.region [⟨some 7,(.move (.tmp 0)),none⟩,
 ⟨some 8,(.lenStr (.tmp 7)),none⟩,
 ⟨some 9,(.bin .gtr .prim (.tmp 8) (.con (.int .i64 60000))),none⟩])
 (.cond (.tmp 9)
 (.seq (.region [⟨some 10,(.build [(.int .i64 0),.nilSlice] []),none⟩,
 ⟨none,(.store 2 (.tmp 2) (.tmp 10)),none⟩,
 ⟨some 3,(.move (.con (.int .i64 0))),none⟩,
 ⟨some 4,(.move (.con (.int .i64 2))),none⟩])
 .ret)
 .skip))
 (.seq (.seq (.region [⟨some 11,(.move (.tmp 0)),none⟩,
 ⟨some 12,(.call 31 [(.tmp 11),(.con (.str ⟨#[10]⟩))]),none⟩,
 ⟨some 13,(.lenS (.tmp 12)),none⟩,
 ⟨some 14,(.move (.con (.int .i64 0))),none⟩])
 (.join [false,false,true,true,true] (.block 0 (.loop [false,false,true,false,false,false,false,false,false,false,false,false,true,true,true] [false,false,true,true,true]
 (.seq (.region [⟨some 15,(.bin .lss .prim (.tmp 14) (.tmp 13)),none⟩])
 (.seq (.cond (.tmp 15)
 .skip
 (.exit 0))
 (.seq (.block 1 (.seq (.region [⟨some 16,(.move (.tmp 14)),none⟩,
 ⟨some 17,(.indexAddrS 1 (.tmp 12) (.tmp 14)),none⟩,
 ⟨some 18,(.load1 (.tmp 17)),none⟩,
 ⟨some 5,(.move (.tmp 16)),none⟩,
 ⟨some 6,(.move (.tmp 18)),none⟩])
 (.seq (.region [⟨some 19,(.move (.tmp 6)),none⟩,
 ⟨some 20,(.bin .neq .prim (.tmp 19) (.con (.str ⟨#[]⟩))),none⟩,
 ⟨some 21,(.move (.tmp 20)),none⟩,
 ⟨some 22,(.move (.tmp 6)),some (21,true)⟩,
 ⟨some 23,(.call 33 [(.tmp 22)]),some (21,true)⟩,
 ⟨some 24,(.call 32 [(.tmp 2),(.tmp 23)]),some (21,true)⟩,
 ⟨some 25,(.un .not (.tmp 24)),some (21,true)⟩,
 ⟨some 26,(.pick (.tmp 21) (.tmp 25) (.con (.bool false))),none⟩])
 (.cond (.tmp 26)
 (.seq (.region [⟨some 27,(.build [(.int .i64 0),.nilSlice] []),none⟩,
 ⟨some 28,(.move (.tmp 5)),none⟩,
 ⟨some 29,(.bin .add .prim (.tmp 28) (.con (.int .i64 1))),none⟩,
 ⟨none,(.store 2 (.tmp 2) (.tmp 27)),none⟩,
 ⟨some 3,(.move (.tmp 29)),none⟩,
 ⟨some 4,(.move (.con (.int .i64 2))),none⟩])
 .ret)
 .skip))))
 (.region [⟨some 30,(.bin .add .prim (.tmp 14) (.con (.int .i64 1))),none⟩,
 ⟨some 14,(.move (.tmp 30)),none⟩]))))))))
 (.seq (.seq (.region [⟨some 31,(.fieldAddr 0 (.tmp 2)),none⟩,
 ⟨some 32,(.load1 (.tmp 31)),none⟩,
 ⟨some 33,(.bin .eql .prim (.tmp 32) (.con (.int .i64 0))),none⟩])
 (.cond (.tmp 33)
 (.seq (.region [⟨some 34,(.build [(.int .i64 0),.nilSlice] []),none⟩,
 ⟨none,(.store 2 (.tmp 2) (.tmp 34)),none⟩,
 ⟨some 3,(.move (.con (.int .i64 1))),none⟩,
 ⟨some 4,(.move (.con (.int .i64 2))),none⟩])
 .ret)
 .skip))
 (.seq (.region [⟨some 35,(.fieldAddr 1 (.tmp 2)),none⟩,
 ⟨some 36,(.load1 (.tmp 35)),none⟩,
 ⟨some 37,(.append 4 32 (.con .nilSlice) (.tmp 36)),none⟩,
 ⟨some 38,(.fieldAddr 1 (.tmp 2)),none⟩,
 ⟨none,(.store 1 (.tmp 38) (.tmp 37)),none⟩])
 (.seq (.region [⟨some 39,(.loadN 2 (.tmp 2)),none⟩,
 ⟨none,(.store 2 (.tmp 2) (.tmp 39)),none⟩,
 ⟨some 3,(.move (.con (.int .i64 0))),none⟩,
 ⟨some 4,(.move (.con (.int .i64 0))),none⟩])
 .ret))))))⟩
theorem F20_ok : cfn tab F20.body Tryd.f20 = some F20 := by kernel_rfl

/- milestone/milestoneref1.Same -/
def F22 : AFn := ⟨38,[.tmp 4],
 (.seq (.region [⟨some 2,(.box 2 (.tmp 0)),none⟩,
 ⟨some 3,(.box 2 (.tmp 1)),none⟩,
 ⟨some 4,(.move (.con (.bool false))),none⟩])
 (.seq (.seq (.region [⟨some 6,(.fieldAddr 0 (.tmp 2)),none⟩,
 ⟨some 7,(.load1 (.tmp 6)),none⟩,
 ⟨some 8,(.fieldAddr 0 (.tmp 3)),none⟩,
 ⟨some 9,(.load1 (.tmp 8)),none⟩,
 ⟨some 10,(.bin .neq .prim (.tmp 7) (.tmp 9)),none⟩,
 ⟨some 11,(.move (.tmp 10)),none⟩,
 ⟨some 12,(.fieldAddr 1 (.tmp 2)),some (11,false)⟩,
 ⟨some 13,(.load1 (.tmp 12)),some (11,false)⟩,
 ⟨some 14,(.lenS (.tmp 13)),some (11,false)⟩,
 ⟨some 15,(.fieldAddr 1 (.tmp 3)),some (11,false)⟩,
 ⟨some 16,(.load1 (.tmp 15)),some (11,false)⟩,
 ⟨some 17,(.lenS (.tmp 16)),some (11,false)⟩,
 ⟨some 18,(.bin .neq .prim (.tmp 14) (.tmp 17)),some (11,false)⟩,
 ⟨some 19,(.pick (.tmp 11) (.con (.bool true)) (.tmp 18)),none⟩])
 (.cond (.tmp 19)
 (.seq (.region [⟨some 4,(.move (.con (.bool false))),none⟩])
 .ret)
 .skip))
 (.seq (.seq (.region [⟨some 5,(.move (.con (.int .i64 0))),none⟩])
 (.join [false,false,false,false,true] (.block 0 (.loop [false,false,true,true,false,true] [false,false,false,false,true]
 (.seq (.seq (.region [⟨some 20,(.move (.tmp 5)),none⟩,
 ⟨some 21,(.fieldAddr 1 (.tmp 2)),none⟩,
 ⟨some 22,(.load1 (.tmp 21)),none⟩,
 ⟨some 23,(.lenS (.tmp 22)),none⟩,
 ⟨some 24,(.bin .lss .prim (.tmp 20) (.tmp 23)),none⟩])
 (.cond (.tmp 24)
 .skip
 (.exit 0)))
 (.seq (.block 1 (.seq (.dregion [[],[0],[],[2,0,1],[1,0,2,3],[],[5],[],[7,5,6],[6,5,7,8],[8,7,5,6,9,3,2,0,1,4]] [.op 0 ⟨some 27,(.fieldAddr 1 (.tmp 2)),none⟩,
 .op 1 ⟨some 28,(.load1 (.tmp 27)),none⟩,
 .op 2 ⟨some 29,(.move (.tmp 5)),none⟩,
 .op 3 ⟨some 30,(.indexAddrS 4 (.tmp 28) (.tmp 29)),none⟩,
 .op 4 ⟨some 31,(.loadN 4 (.tmp 30)),none⟩,
 .op 5 ⟨some 32,(.fieldAddr 1 (.tmp 3)),none⟩,
 .op 6 ⟨some 33,(.load1 (.tmp 32)),none⟩,
 .op 7 ⟨some 34,(.move (.tmp 5)),none⟩,
 .op 8 ⟨some 35,(.indexAddrS 4 (.tmp 33) (.tmp 34)),none⟩,
 .op 9 ⟨some 36,(.loadN 4 (.tmp 35)),none⟩,
 .op 10 ⟨some 37,(.bin .neq (.flat [.int,.int,.int,.int]) (.tmp 31) (.tmp 36)),none⟩])
 (.cond (.tmp 37)
 (.seq (.region [⟨some 4,(.move (.con (.bool false))),none⟩])
 .ret)
 .skip)))
 (.region [⟨some 25,(.move (.tmp 5)),none⟩,
 ⟨some 26,(.bin .add .prim (.tmp 25) (.con (.int .i64 1))),none⟩,
 ⟨some 5,(.move (.tmp 26)),none⟩])))))))
 (.seq (.region [⟨some 4,(.move (.con (.bool true))),none⟩])
 .ret))))⟩
theorem F22_ok : cfn tab F22.body Tryd.f22 = some F22 := by kernel_rfl

/- milestone/net.Text -/
def F27 : AFn := ⟨44,[.tmp 2],
 (.seq (.region [⟨some 1,(.box 2 (.tmp 0)),none⟩,
 ⟨some 2,(.move (.con (.str ⟨#[]⟩))),none⟩])
 (.seq (.region [⟨some 3,.allocB,none⟩])
 (.seq (.region [⟨some 7,(.mkFunc (.func 36) [(.tmp 3)] []),none⟩,
 ⟨some 4,(.move (.tmp 7)),none⟩])
 (.seq (.region [⟨some 8,(.move (.tmp 4)),none⟩,
 ⟨some 9,(.fieldAddr 0 (.tmp 1)),none⟩,
 ⟨some 10,(.load1 (.tmp 9)),none⟩,
 ⟨some 11,(.call 37 [(.tmp 10)]),none⟩,
 ⟨some 12,(.bin .add .prim (.con (.str ⟨#[110,101,116,32]⟩)) (.tmp 11)),none⟩,
 ⟨some 13,(.bin .add .prim (.tmp 12) (.con (.str ⟨#[10]⟩))),none⟩,
 ⟨some 14,(.callv (.tmp 8) [(.tmp 13)]),none⟩])
 (.seq (.seq (.region [⟨some 15,(.fieldAddr 1 (.tmp 1)),none⟩,
 ⟨some 16,(.load1 (.tmp 15)),none⟩,
 ⟨some 17,(.lenS (.tmp 16)),none⟩,
 ⟨some 18,(.move (.con (.int .i64 0))),none⟩])
 (.join [false,false,true,true] (.block 0 (.loop [false,false,false,true,true,false,false,false,false,false,false,false,false,false,false,false,true,true,true] [false,false,true,true]
 (.seq (.region [⟨some 19,(.bin .lss .prim (.tmp 18) (.tmp 17)),none⟩])
 (.seq (.cond (.tmp 19)
 .skip
 (.exit 0))
 (.seq (.block 1 (.seq (.region [⟨some 20,(.indexAddrS 4 (.tmp 16) (.tmp 18)),none⟩,
 ⟨some 21,(.loadN 4 (.tmp 20)),none⟩,
 ⟨some 6,(.alloc [(.int .i64 0),(.int .i64 0),(.int .i64 0),(.int .i64 0)]),none⟩,
 ⟨none,(.store 4 (.tmp 6) (.tmp 21)),none⟩])
 (.dregion [[],[],[1],[1,2],[],[4],[2,1,3,4,5],[],[7],[],[9],[9,10],[10,9,11,7,8],[],[13],[5,4,3,1,2,6,13,14],[14,13,15,8,7,11,9,10,12,5,4,6,2,1,3],[3,1,2,6,4,5,12,10,9,11,7,8,15,13,14,16],[16,14,13,15,8,7,11,9,10,12,5,4,6,2,1,3,17],[17,3,1,2,6,4,5,12,10,9,11,7,8,15,13,14,16,18,0]] [.op 0 ⟨some 22,(.move (.tmp 4)),none⟩,
 .op 1 ⟨some 23,(.fieldAddr 0 (.tmp 6)),none⟩,
 .op 2 ⟨some 24,(.load1 (.tmp 23)),none⟩,
 .op 4 ⟨some 26,(.fieldAddr 1 (.tmp 6)),none⟩,
 .op 5 ⟨some 27,(.load1 (.tmp 26)),none⟩,
 .op 7 ⟨some 29,(.fieldAddr 2 (.tmp 6)),none⟩,
 .op 8 ⟨some 30,(.load1 (.tmp 29)),none⟩,
 .op 9 ⟨some 31,(.fieldAddr 2 (.tmp 6)),none⟩,
 .op 10 ⟨some 32,(.load1 (.tmp 31)),none⟩,
 .op 11 ⟨some 33,(.bin .add .prim (.tmp 32) (.con (.int .i64 1))),none⟩,
 .op 12 ⟨some 34,(.sliceStr (.con (.str ⟨#[119,98,99,102,116]⟩)) (some (.tmp 30)) (some (.tmp 33))),none⟩,
 .op 13 ⟨some 35,(.fieldAddr 3 (.tmp 6)),none⟩,
 .op 14 ⟨some 36,(.load1 (.tmp 35)),none⟩,
 .op 3 ⟨some 25,(.call 37 [(.tmp 24)]),none⟩,
 .re 5 ⟨some 27,(.load1 (.tmp 26)),none⟩,
 .re 8 ⟨some 30,(.load1 (.tmp 29)),none⟩,
 .re 10 ⟨some 32,(.load1 (.tmp 31)),none⟩,
 .re 14 ⟨some 36,(.load1 (.tmp 35)),none⟩,
 .op 6 ⟨some 28,(.call 37 [(.tmp 27)]),none⟩,
 .re 8 ⟨some 30,(.load1 (.tmp 29)),none⟩,
 .re 10 ⟨some 32,(.load1 (.tmp 31)),none⟩,
 .re 14 ⟨some 36,(.load1 (.tmp 35)),none⟩,
 .op 15 ⟨some 37,(.call 37 [(.tmp 36)]),none⟩,
 .re 8 ⟨some 30,(.load1 (.tmp 29)),none⟩,
 .re 10 ⟨some 32,(.load1 (.tmp 31)),none⟩,
 .op 16 ⟨some 38,(.buildSlice [(.str ⟨#[]⟩),(.str ⟨#[]⟩),(.str ⟨#[]⟩),(.str ⟨#[]⟩),(.str ⟨#[]⟩)] 5 [(0,1,(.con (.str ⟨#[101,100,103,101]⟩))),(1,1,(.tmp 25)),(2,1,(.tmp 28)),(3,1,(.tmp 34)),(4,1,(.tmp 37))]),none⟩,
 .op 17 ⟨some 39,(.call 38 [(.tmp 38),(.con (.str ⟨#[32]⟩))]),none⟩,
 .op 18 ⟨some 40,(.bin .add .prim (.tmp 39) (.con (.str ⟨#[10]⟩))),none⟩,
 .op 19 ⟨some 41,(.callv (.tmp 22) [(.tmp 40)]),none⟩])))
 (.region [⟨some 42,(.bin .add .prim (.tmp 18) (.con (.int .i64 1))),none⟩,
 ⟨some 18,(.move (.tmp 42)),none⟩]))))))))
 (.seq (.region [⟨some 43,(.call 39 [(.tmp 3)]),none⟩,
 ⟨some 2,(.move (.tmp 43)),none⟩])
 .ret))))))⟩
theorem F27_ok : cfn tab F27.body Tryd.f27 = some F27 := by kernel_rfl

/- (milestone/net.checker).edge -/
def F28 : AFn := ⟨38,[.tmp 4],
 (.seq (.region [⟨some 2,(.box 1 (.tmp 0)),none⟩,
 ⟨some 3,(.box 4 (.tmp 1)),none⟩,
 ⟨some 4,(.move (.con (.bool false))),none⟩])
 (.seq (.region [⟨some 6,(.loadN 1 (.tmp 2)),none⟩,
 ⟨some 7,(.mkFunc (.func 35) [(.tmp 6)] []),none⟩,
 ⟨some 5,(.move (.tmp 7)),none⟩])
 (.seq (.region [⟨some 8,(.move (.tmp 5)),none⟩,
 ⟨some 9,(.fieldAddr 0 (.tmp 3)),none⟩,
 ⟨some 10,(.load1 (.tmp 9)),none⟩,
 ⟨some 11,(.callv (.tmp 8) [(.tmp 10)]),none⟩,
 ⟨some 12,(.move (.tmp 11)),none⟩,
 ⟨some 13,(.move (.tmp 5)),some (12,true)⟩,
 ⟨some 14,(.fieldAddr 1 (.tmp 3)),some (12,true)⟩,
 ⟨some 15,(.load1 (.tmp 14)),some (12,true)⟩,
 ⟨some 16,(.callv (.tmp 13) [(.tmp 15)]),some (12,true)⟩,
 ⟨some 17,(.pick (.tmp 12) (.tmp 16) (.con (.bool false))),none⟩,
 ⟨some 18,(.move (.tmp 17)),none⟩,
 ⟨some 19,(.fieldAddr 2 (.tmp 3)),some (18,true)⟩,
 ⟨some 20,(.load1 (.tmp 19)),some (18,true)⟩,
 ⟨some 21,(.bin .geq .prim (.tmp 20) (.con (.int .i64 0))),some (18,true)⟩,
 ⟨some 22,(.pick (.tmp 18) (.tmp 21) (.con (.bool false))),none⟩,
 ⟨some 23,(.move (.tmp 22)),none⟩,
 ⟨some 24,(.fieldAddr 2 (.tmp 3)),some (23,true)⟩,
 ⟨some 25,(.load1 (.tmp 24)),some (23,true)⟩,
 ⟨some 26,(.bin .lss .prim (.tmp 25) (.con (.int .i64 5))),some (23,true)⟩,
 ⟨some 27,(.pick (.tmp 23) (.tmp 26) (.con (.bool false))),none⟩,
 ⟨some 28,(.move (.tmp 27)),none⟩,
 ⟨some 29,(.fieldAddr 3 (.tmp 3)),some (28,true)⟩,
 ⟨some 30,(.load1 (.tmp 29)),some (28,true)⟩,
 ⟨some 31,(.bin .geq .prim (.tmp 30) (.con (.int .i64 0))),some (28,true)⟩,
 ⟨some 32,(.pick (.tmp 28) (.tmp 31) (.con (.bool false))),none⟩,
 ⟨some 33,(.move (.tmp 32)),none⟩,
 ⟨some 34,(.fieldAddr 3 (.tmp 3)),some (33,true)⟩,
 ⟨some 35,(.load1 (.tmp 34)),some (33,true)⟩,
 ⟨some 36,(.bin .leq .prim (.tmp 35) (.con (.int .i64 2147483647))),some (33,true)⟩,
 ⟨some 37,(.pick (.tmp 33) (.tmp 36) (.con (.bool false))),none⟩,
 ⟨some 4,(.move (.tmp 37)),none⟩])
 .ret)))⟩
theorem F28_ok : cfn tab F28.body Tryd.f28 = some F28 := by kernel_rfl

/- milestone/net.add -/
def F32 : AFn := ⟨65,[.tmp 4],
 (.seq (.region [⟨some 4,(.move (.con (.bool false))),none⟩])
 (.seq (.seq (.region [⟨some 9,(.move (.tmp 0)),none⟩,
 ⟨some 10,(.nilCheck (.tmp 9)),none⟩,
 ⟨some 11,(.fieldAddr 0 (.tmp 10)),none⟩,
 ⟨some 12,(.load1 (.tmp 11)),none⟩,
 ⟨some 13,(.bin .eql .prim (.tmp 12) (.con (.int .i64 0))),none⟩])
 (.cond (.tmp 13)
 (.seq (.region [⟨some 15,(.move (.tmp 1)),none⟩,
 ⟨some 16,(.assert 76 (.int .i64 0) (.tmp 15)),none⟩,
 ⟨some 14,(.move (.tmp 16)),none⟩,
 ⟨some 17,(.extract (.tmp 14) 0),none⟩,
 ⟨some 18,(.extract (.tmp 14) 1),none⟩,
 ⟨some 5,(.move (.tmp 17)),none⟩,
 ⟨some 6,(.move (.tmp 18)),none⟩])
 (.seq (.region [⟨some 19,(.move (.tmp 0)),none⟩,
 ⟨some 20,(.move (.tmp 5)),none⟩,
 ⟨some 21,(.nilCheck (.tmp 19)),none⟩,
 ⟨some 22,(.fieldAddr 0 (.tmp 21)),none⟩,
 ⟨none,(.store 1 (.tmp 22) (.tmp 20)),none⟩])
 (.seq (.region [⟨some 23,(.move (.tmp 6)),none⟩,
 ⟨some 24,(.move (.tmp 23)),none⟩,
 ⟨some 25,(.move (.tmp 0)),some (24,true)⟩,
 ⟨some 26,(.nilCheck (.tmp 25)),some (24,true)⟩,
 ⟨some 27,(.loadN 2 (.tmp 26)),some (24,true)⟩,
 ⟨some 28,(.call 16 [(.tmp 27)]),some (24,true)⟩,
 ⟨some 29,(.pick (.tmp 24) (.tmp 28) (.con (.bool false))),none⟩,
 ⟨some 4,(.move (.tmp 29)),none⟩])
 .ret)))
 .skip))
 (.seq (.region [⟨some 31,(.move (.tmp 1)),none⟩,
 ⟨some 32,(.assert 31 (.agg [(.int .i64 0),(.int .i64 0),(.int .i64 0),(.int .i64 0)]) (.tmp 31)),none⟩,
 ⟨some 30,(.move (.tmp 32)),none⟩,
 ⟨some 33,(.extract (.tmp 30) 0),none⟩,
 ⟨some 34,(.extract (.tmp 30) 1),none⟩,
 ⟨some 7,(.alloc [(.int .i64 0),(.int .i64 0),(.int .i64 0),(.int .i64 0)]),none⟩,
 ⟨none,(.store 4 (.tmp 7) (.tmp 33)),none⟩,
 ⟨some 8,(.move (.tmp 34)),none⟩])
 (.seq (.seq (.dregion [[],[0],[0,1],[1,0,2],[2,0,1,3],[3,1,0,2,4],[4,2,0,1,3,5],[5,3,1,0,2,4,6],[6,4,2,0,1,3,5,7],[7,5,3,4,6,8,1,0,2],[2,0,1,8,6,4,3,5,7,9],[9,7,5,3,4,6,8,1,0,2,10],[10,2,0,1,8,6,4,3,5,7,9,11],[11,9,7,5,3,4,6,8,1,0,2,10,12],[12,10,2,0,1,8,6,4,3,5,7,9,11,13],[13,11,9,7,5,3,4,6,8,1,0,2,10,12,14],[9,7,5,3,4,6,8,1,0,2,10],[16,14,12,10,2,0,1,8,6,4,3,5,7,9,11,13,15],[15,13,11,9,7,5,3,4,6,8,1,0,2,10,12,14,16,17],[17,16,14,12,11,13,15,18,9,7,5,3,4,6,8,1,0,2,10]] [.op 0 ⟨some 35,(.move (.tmp 8)),none⟩,
 .op 1 ⟨some 36,(.un .not (.tmp 35)),none⟩,
 .op 2 ⟨some 37,(.move (.tmp 36)),none⟩,
 .op 3 ⟨some 38,(.move (.tmp 0)),some (37,false)⟩,
 .op 4 ⟨some 39,(.nilCheck (.tmp 38)),some (37,false)⟩,
 .op 5 ⟨some 40,(.fieldAddr 1 (.tmp 39)),some (37,false)⟩,
 .op 6 ⟨some 41,(.load1 (.tmp 40)),some (37,false)⟩,
 .op 7 ⟨some 42,(.lenS (.tmp 41)),some (37,false)⟩,
 .op 8 ⟨some 43,(.bin .geq .prim (.tmp 42) (.con (.int .i64 400))),some (37,false)⟩,
 .op 9 ⟨some 44,(.pick (.tmp 37) (.con (.bool true)) (.tmp 43)),none⟩,
 .op 10 ⟨some 45,(.move (.tmp 44)),none⟩,
 .op 11 ⟨some 46,(.move (.tmp 0)),some (45,false)⟩,
 .op 12 ⟨some 47,(.nilCheck (.tmp 46)),some (45,false)⟩,
 .op 13 ⟨some 48,(.fieldAddr 0 (.tmp 47)),some (45,false)⟩,
 .op 14 ⟨some 49,(.load1 (.tmp 48)),some (45,false)⟩,
 .op 15 ⟨some 50,(.build [(.int .i64 0)] [(0,1,(.tmp 49))]),some (45,false)⟩,
 .op 16 ⟨some 51,(.loadN 4 (.tmp 7)),some (45,false)⟩,
 .op 17 ⟨some 52,(.call 28 [(.tmp 50),(.tmp 51)]),some (45,false)⟩,
 .op 18 ⟨some 53,(.un .not (.tmp 52)),some (45,false)⟩,
 .op 19 ⟨some 54,(.pick (.tmp 45) (.con (.bool true)) (.tmp 53)),none⟩])
 (.cond (.tmp 54)
 (.seq (.region [⟨some 4,(.move (.con (.bool false))),none⟩])
 .ret)
 .skip))
 (.seq (.dregion [[],[],[1],[1,2],[2,1,3],[],[5],[5,6,3,1,2,4],[7,6,5,4,3,2,1,0],[0,1,2,3,4,5,6,7,8],[8,7,6,5,4,3,2,1,0,9]] [.op 0 ⟨some 55,(.move (.tmp 0)),none⟩,
 .op 1 ⟨some 56,(.move (.tmp 0)),none⟩,
 .op 2 ⟨some 57,(.nilCheck (.tmp 56)),none⟩,
 .op 3 ⟨some 58,(.fieldAddr 1 (.tmp 57)),none⟩,
 .op 4 ⟨some 59,(.load1 (.tmp 58)),none⟩,
 .op 5 ⟨some 60,(.loadN 4 (.tmp 7)),none⟩,
 .op 6 ⟨some 61,(.buildSlice [(.int .i64 0),(.int .i64 0),(.int .i64 0),(.int .i64 0)] 1 [(0,4,(.tmp 60))]),none⟩,
 .op 7 ⟨some 62,(.append 4 32 (.tmp 59) (.tmp 61)),none⟩,
 .op 8 ⟨some 63,(.nilCheck (.tmp 55)),none⟩,
 .op 9 ⟨some 64,(.fieldAddr 1 (.tmp 63)),none⟩,
 .op 10 ⟨none,(.store 1 (.tmp 64) (.tmp 62)),none⟩])
 (.seq (.region [⟨some 4,(.move (.con (.bool true))),none⟩])
 .ret))))))⟩
theorem F32_ok : cfn tab F32.body Tryd.f32 = some F32 := by kernel_rfl

/- milestone/net.line -/
def F33 : AFn := ⟨57,[.tmp 2],
 (.seq (.region [⟨some 2,(.move (.con .nilIface)),none⟩])
 (.seq (.region [⟨some 4,(.move (.tmp 0)),none⟩,
 ⟨some 5,(.call 31 [(.tmp 4),(.con (.str ⟨#[32]⟩))]),none⟩,
 ⟨some 3,(.move (.tmp 5)),none⟩])
 (.seq (.block 0 (.seq (.region [⟨some 7,(.move (.tmp 3)),none⟩,
 ⟨some 8,(.lenS (.tmp 7)),none⟩,
 ⟨some 9,(.bin .eql .prim (.tmp 8) (.con (.int .i64 2))),none⟩,
 ⟨some 10,(.move (.tmp 9)),none⟩,
 ⟨some 11,(.move (.tmp 3)),some (10,true)⟩,
 ⟨some 12,(.indexAddrS 1 (.tmp 11) (.con (.int .i64 0))),some (10,true)⟩,
 ⟨some 13,(.load1 (.tmp 12)),some (10,true)⟩,
 ⟨some 14,(.bin .eql .prim (.tmp 13) (.con (.str ⟨#[110,101,116]⟩))),some (10,true)⟩,
 ⟨some 15,(.pick (.tmp 10) (.tmp 14) (.con (.bool false))),none⟩,
 ⟨some 6,(.move (.tmp 15)),none⟩])
 (.cond (.tmp 6)
 (.seq (.region [⟨some 16,(.move (.tmp 3)),none⟩,
 ⟨some 17,(.indexAddrS 1 (.tmp 16) (.con (.int .i64 1))),none⟩,
 ⟨some 18,(.load1 (.tmp 17)),none⟩,
 ⟨some 19,(.call 41 [(.tmp 18)]),none⟩,
 ⟨some 20,(.mkIface 76 (.tmp 19)),none⟩,
 ⟨some 2,(.move (.tmp 20)),none⟩])
 .ret)
 (.seq (.region [⟨some 22,(.move (.tmp 3)),none⟩,
 ⟨some 23,(.lenS (.tmp 22)),none⟩,
 ⟨some 24,(.bin .eql .prim (.tmp 23) (.con (.int .i64 5))),none⟩,
 ⟨some 25,(.move (.tmp 24)),none⟩,
 ⟨some 26,(.move (.tmp 3)),some (25,true)⟩,
 ⟨some 27,(.indexAddrS 1 (.tmp 26) (.con (.int .i64 0))),some (25,true)⟩,
 ⟨some 28,(.load1 (.tmp 27)),some (25,true)⟩,
 ⟨some 29,(.bin .eql .prim (.tmp 28) (.con (.str ⟨#[101,100,103,101]⟩))),some (25,true)⟩,
 ⟨some 30,(.pick (.tmp 25) (.tmp 29) (.con (.bool false))),none⟩,
 ⟨some 31,(.move (.tmp 30)),none⟩,
 ⟨some 32,(.move (.tmp 3)),some (31,true)⟩,
 ⟨some 33,(.indexAddrS 1 (.tmp 32) (.con (.int .i64 3))),some (31,true)⟩,
 ⟨some 34,(.load1 (.tmp 33)),some (31,true)⟩,
 ⟨some 35,(.lenStr (.tmp 34)),some (31,true)⟩,
 ⟨some 36,(.bin .eql .prim (.tmp 35) (.con (.int .i64 1))),some (31,true)⟩,
 ⟨some 37,(.pick (.tmp 31) (.tmp 36) (.con (.bool false))),none⟩,
 ⟨some 21,(.move (.tmp 37)),none⟩])
 (.cond (.tmp 21)
 (.seq (.dregion [[],[0],[0,1],[1,0,2],[],[4],[4,5],[2,0,1,3,5,4,6],[],[8],[8,9],[9,8,10],[6,4,5,3,1,0,2,7,10,8,9,11],[],[13],[13,14],[11,9,8,10,7,2,0,1,3,5,4,6,12,14,13,15],[15,13,14,16,11,9,8,10,12,6,4,5,7,2,0,1,3],[3,1,0,2,7,5,4,6,12,10,8,9,11,16,14,13,15,17],[17,15,13,14,16,11,9,8,10,12,6,4,5,7,2,0,1,3,18]] [.op 0 ⟨some 38,(.move (.tmp 3)),none⟩,
 .op 1 ⟨some 39,(.indexAddrS 1 (.tmp 38) (.con (.int .i64 1))),none⟩,
 .op 2 ⟨some 40,(.load1 (.tmp 39)),none⟩,
 .op 4 ⟨some 42,(.move (.tmp 3)),none⟩,
 .op 5 ⟨some 43,(.indexAddrS 1 (.tmp 42) (.con (.int .i64 2))),none⟩,
 .op 6 ⟨some 44,(.load1 (.tmp 43)),none⟩,
 .op 8 ⟨some 46,(.move (.tmp 3)),none⟩,
 .op 9 ⟨some 47,(.indexAddrS 1 (.tmp 46) (.con (.int .i64 3))),none⟩,
 .op 10 ⟨some 48,(.load1 (.tmp 47)),none⟩,
 .op 11 ⟨some 49,(.indexStr (.tmp 48) (.con (.int .i64 0))),none⟩,
 .op 13 ⟨some 51,(.move (.tmp 3)),none⟩,
 .op 14 ⟨some 52,(.indexAddrS 1 (.tmp 51) (.con (.int .i64 4))),none⟩,
 .op 15 ⟨some 53,(.load1 (.tmp 52)),none⟩,
 .op 3 ⟨some 41,(.call 41 [(.tmp 40)]),none⟩,
 .re 6 ⟨some 44,(.load1 (.tmp 43)),none⟩,
 .re 10 ⟨some 48,(.load1 (.tmp 47)),none⟩,
 .re 15 ⟨some 53,(.load1 (.tmp 52)),none⟩,
 .op 7 ⟨some 45,(.call 41 [(.tmp 44)]),none⟩,
 .re 10 ⟨some 48,(.load1 (.tmp 47)),none⟩,
 .re 15 ⟨some 53,(.load1 (.tmp 52)),none⟩,
 .op 12 ⟨some 50,(.call 42 [(.con (.str ⟨#[119,98,99,102,116]⟩)),(.tmp 49)]),none⟩,
 .re 15 ⟨some 53,(.load1 (.tmp 52)),none⟩,
 .op 16 ⟨some 54,(.call 41 [(.tmp 53)]),none⟩,
 .op 17 ⟨some 55,(.build [(.int .i64 0),(.int .i64 0),(.int .i64 0),(.int .i64 0)] [(0,1,(.tmp 41)),(1,1,(.tmp 45)),(2,1,(.tmp 50)),(3,1,(.tmp 54))]),none⟩,
 .op 18 ⟨some 56,(.mkIface 31 (.tmp 55)),none⟩,
 .op 19 ⟨some 2,(.move (.tmp 56)),none⟩])
 .ret)
 .skip)))))
 (.seq (.region [⟨some 2,(.move (.con .nilIface)),none⟩])
 .ret))))⟩
theorem F33_ok : cfn tab F33.body Tryd.f33 = some F33 := by kernel_rfl

/- (milestone/net.checker).vertex -/
def F35 : AFn := ⟨13,[.tmp 4],
 (.seq (.region [⟨some 2,(.box 1 (.tmp 0)),none⟩,
 ⟨some 4,(.move (.con (.bool false))),none⟩])
 (.seq (.region [⟨some 5,(.move (.tmp 1)),none⟩,
 ⟨some 6,(.bin .geq .prim (.tmp 5) (.con (.int .i64 0))),none⟩,
 ⟨some 7,(.move (.tmp 6)),none⟩,
 ⟨some 8,(.move (.tmp 1)),some (7,true)⟩,
 ⟨some 9,(.fieldAddr 0 (.tmp 2)),some (7,true)⟩,
 ⟨some 10,(.load1 (.tmp 9)),some (7,true)⟩,
 ⟨some 11,(.bin .lss .prim (.tmp 8) (.tmp 10)),some (7,true)⟩,
 ⟨some 12,(.pick (.tmp 7) (.tmp 11) (.con (.bool false))),none⟩,
 ⟨some 4,(.move (.tmp 12)),none⟩])
 .ret))⟩
theorem F35_ok : cfn tab F35.body Tryd.f35 = some F35 := by kernel_rfl

/- milestone/net.number -/
def F41 : AFn := ⟨23,[.tmp 2],
 (.seq (.region [⟨some 2,(.move (.con (.int .i64 0))),none⟩])
 (.seq (.region [⟨some 6,(.move (.tmp 0)),none⟩,
 ⟨some 7,(.call 52 [(.tmp 6)]),none⟩,
 ⟨some 5,(.move (.tmp 7)),none⟩,
 ⟨some 8,(.extract (.tmp 5) 0),none⟩,
 ⟨some 9,(.extract (.tmp 5) 1),none⟩,
 ⟨some 3,(.move (.tmp 8)),none⟩,
 ⟨some 4,(.move (.tmp 9)),none⟩])
 (.seq (.seq (.region [⟨some 10,(.move (.tmp 4)),none⟩,
 ⟨some 11,(.bin .neq .nilI (.tmp 10) (.con .nilIface)),none⟩,
 ⟨some 12,(.move (.tmp 11)),none⟩,
 ⟨some 13,(.move (.tmp 3)),some (12,false)⟩,
 ⟨some 14,(.bin .lss .prim (.tmp 13) (.con (.int .i64 0))),some (12,false)⟩,
 ⟨some 15,(.pick (.tmp 12) (.con (.bool true)) (.tmp 14)),none⟩,
 ⟨some 16,(.move (.tmp 15)),none⟩,
 ⟨some 17,(.move (.tmp 3)),some (16,false)⟩,
 ⟨some 18,(.call 37 [(.tmp 17)]),some (16,false)⟩,
 ⟨some 19,(.move (.tmp 0)),some (16,false)⟩,
 ⟨some 20,(.bin .neq .prim (.tmp 18) (.tmp 19)),some (16,false)⟩,
 ⟨some 21,(.pick (.tmp 16) (.con (.bool true)) (.tmp 20)),none⟩])
 (.cond (.tmp 21)
 (.seq (.region [⟨some 2,(.move (.con (.int .i64 (-1)))),none⟩])
 .ret)
 .skip))
 (.seq (.region [⟨some 22,(.move (.tmp 3)),none⟩,
 ⟨some 2,(.move (.tmp 22)),none⟩])
 .ret))))⟩
theorem F41_ok : cfn tab F41.body Tryd.f41 = some F41 := by kernel_rfl

end Go.Proofs.YtknhlpmmalcchaaDoor
