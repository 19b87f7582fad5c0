/- Functions of the program as the interpreter takes them (printed by a program). -/
import Derived.Test.YtknhlpmmalcchaaDoorJ7Ft
set_option linter.all false
set_option linter.unusedVariables false
set_option linter.unusedSimpArgs false
namespace Go.Proofs.YtknhlpmmalcchaaDoor
open Go Go.VAI Go.Proofs
/- milestone/milestonelaw1.NetWalks -/
def F7 : AFn := ⟨213,[.tmp 12],
 (.seq (.region [⟨some 12,(.move (.con (.bool false))),none⟩])
 (.seq (.seq (.region [⟨some 39,(.call 13 []),none⟩,
 ⟨some 40,(.un .not (.tmp 39)),none⟩])
 (.cond (.tmp 40)
 (.seq (.region [⟨some 12,(.move (.con (.bool false))),none⟩])
 .ret)
 .skip))
 (.seq (.seq (.region [⟨some 41,(.move (.tmp 5)),none⟩,
 ⟨some 42,(.lenS (.tmp 41)),none⟩,
 ⟨some 43,(.bin .gtr .prim (.tmp 42) (.con (.int .i64 60))),none⟩])
 (.cond (.tmp 43)
 (.seq (.region [⟨some 12,(.move (.con (.bool true))),none⟩])
 .ret)
 .skip))
 (.seq (.region [⟨some 44,(.move (.tmp 0)),none⟩,
 ⟨some 45,(.move (.tmp 1)),none⟩,
 ⟨some 46,(.call 15 [(.tmp 44),(.tmp 45),(.con (.int .i64 2))]),none⟩,
 ⟨some 13,(.alloc [(.int .i64 0),.nilSlice]),none⟩,
 ⟨none,(.store 2 (.tmp 13) (.tmp 46)),none⟩])
 (.seq (.region [⟨some 47,(.move (.tmp 2)),none⟩,
 ⟨some 48,(.fieldAddr 0 (.tmp 13)),none⟩,
 ⟨some 49,(.load1 (.tmp 48)),none⟩,
 ⟨some 50,(.call 18 [(.tmp 47),(.tmp 49)]),none⟩,
 ⟨some 14,(.move (.tmp 50)),none⟩])
 (.seq (.region [⟨some 15,(.move (.con .nilSlice)),none⟩])
 (.seq (.region [⟨some 51,(.move (.tmp 14)),none⟩,
 ⟨some 16,(.move (.tmp 51)),none⟩])
 (.seq (.seq (.region [⟨some 17,(.move (.con (.int .i64 0))),none⟩])
 (.join [false,false,true,true,false,true,false,false,false,false,false,false,true,true,true,true,true] (.block 0 (.loop [false,false,true,true,true,true,false,false,false,false,false,false,false,true,true,true,true,true] [false,false,true,true,false,true,false,false,false,false,false,false,true,true,true,true,true]
 (.seq (.seq (.region [⟨some 52,(.move (.tmp 17)),none⟩,
 ⟨some 53,(.move (.tmp 4)),none⟩,
 ⟨some 54,(.lenS (.tmp 53)),none⟩,
 ⟨some 55,(.bin .lss .prim (.tmp 52) (.tmp 54)),none⟩,
 ⟨some 56,(.move (.tmp 55)),none⟩,
 ⟨some 57,(.move (.tmp 17)),some (56,true)⟩,
 ⟨some 58,(.bin .lss .prim (.tmp 57) (.con (.int .i64 20))),some (56,true)⟩,
 ⟨some 59,(.pick (.tmp 56) (.tmp 58) (.con (.bool false))),none⟩])
 (.cond (.tmp 59)
 .skip
 (.exit 0)))
 (.seq (.block 1 (.seq (.region [⟨some 18,(.move (.con .nilSlice)),none⟩])
 (.seq (.seq (.region [⟨some 19,(.move (.con (.int .i64 0))),none⟩])
 (.join [false,false,true,true,true,true,false,false,false,false,false,false,true,true,true,true,true,true,true] (.block 2 (.loop [false,false,true,true,true,true,false,false,false,false,false,false,false,true,true,true,true,true,true,true] [false,false,true,true,true,true,false,false,false,false,false,false,true,true,true,true,true,true,true]
 (.seq (.seq (.region [⟨some 62,(.move (.tmp 19)),none⟩,
 ⟨some 63,(.fieldAddr 1 (.tmp 13)),none⟩,
 ⟨some 64,(.load1 (.tmp 63)),none⟩,
 ⟨some 65,(.lenS (.tmp 64)),none⟩,
 ⟨some 66,(.bin .lss .prim (.tmp 62) (.tmp 65)),none⟩])
 (.cond (.tmp 66)
 .skip
 (.exit 2)))
 (.seq (.block 3 (.seq (.region [⟨some 69,(.fieldAddr 1 (.tmp 13)),none⟩,
 ⟨some 70,(.load1 (.tmp 69)),none⟩,
 ⟨some 71,(.move (.tmp 19)),none⟩,
 ⟨some 72,(.indexAddrS 4 (.tmp 70) (.tmp 71)),none⟩,
 ⟨some 73,(.fieldAddr 0 (.tmp 72)),none⟩,
 ⟨some 74,(.load1 (.tmp 73)),none⟩,
 ⟨some 75,(.move (.tmp 16)),none⟩,
 ⟨some 76,(.bin .eql .prim (.tmp 74) (.tmp 75)),none⟩])
 (.cond (.tmp 76)
 (.region [⟨some 77,(.move (.tmp 18)),none⟩,
 ⟨some 78,(.move (.tmp 19)),none⟩,
 ⟨some 79,(.buildSlice [(.int .i64 0)] 1 [(0,1,(.tmp 78))]),none⟩,
 ⟨some 80,(.append 1 8 (.tmp 77) (.tmp 79)),none⟩,
 ⟨some 18,(.move (.tmp 80)),none⟩])
 .skip)))
 (.region [⟨some 67,(.move (.tmp 19)),none⟩,
 ⟨some 68,(.bin .add .prim (.tmp 67) (.con (.int .i64 1))),none⟩,
 ⟨some 19,(.move (.tmp 68)),none⟩])))))))
 (.seq (.seq (.region [⟨some 81,(.move (.tmp 18)),none⟩,
 ⟨some 82,(.lenS (.tmp 81)),none⟩,
 ⟨some 83,(.bin .eql .prim (.tmp 82) (.con (.int .i64 0))),none⟩])
 (.cond (.tmp 83)
 (.exit 0)
 .skip))
 (.seq (.region [⟨some 84,(.move (.tmp 15)),none⟩,
 ⟨some 85,(.move (.tmp 18)),none⟩,
 ⟨some 86,(.move (.tmp 4)),none⟩,
 ⟨some 87,(.move (.tmp 17)),none⟩,
 ⟨some 88,(.indexAddrS 1 (.tmp 86) (.tmp 87)),none⟩,
 ⟨some 89,(.load1 (.tmp 88)),none⟩,
 ⟨some 90,(.move (.tmp 18)),none⟩,
 ⟨some 91,(.lenS (.tmp 90)),none⟩,
 ⟨some 92,(.call 18 [(.tmp 89),(.tmp 91)]),none⟩,
 ⟨some 93,(.indexAddrS 1 (.tmp 85) (.tmp 92)),none⟩,
 ⟨some 94,(.load1 (.tmp 93)),none⟩,
 ⟨some 95,(.buildSlice [(.int .i64 0)] 1 [(0,1,(.tmp 94))]),none⟩,
 ⟨some 96,(.append 1 8 (.tmp 84) (.tmp 95)),none⟩,
 ⟨some 15,(.move (.tmp 96)),none⟩])
 (.dregion [[],[0],[],[],[3],[3,4],[4,3,5,2],[2,5,3,4,6],[6,4,3,5,2,7,0,1],[1,0,7,2,5,3,4,6,8],[8,6,4,3,5,2,7,0,1,9],[9,1,0,7,2,5,3,4,6,8,10]] [.op 0 ⟨some 97,(.fieldAddr 1 (.tmp 13)),none⟩,
 .op 1 ⟨some 98,(.load1 (.tmp 97)),none⟩,
 .op 2 ⟨some 99,(.move (.tmp 15)),none⟩,
 .op 3 ⟨some 100,(.move (.tmp 15)),none⟩,
 .op 4 ⟨some 101,(.lenS (.tmp 100)),none⟩,
 .op 5 ⟨some 102,(.bin .sub .prim (.tmp 101) (.con (.int .i64 1))),none⟩,
 .op 6 ⟨some 103,(.indexAddrS 1 (.tmp 99) (.tmp 102)),none⟩,
 .op 7 ⟨some 104,(.load1 (.tmp 103)),none⟩,
 .op 8 ⟨some 105,(.indexAddrS 4 (.tmp 98) (.tmp 104)),none⟩,
 .op 9 ⟨some 106,(.fieldAddr 1 (.tmp 105)),none⟩,
 .op 10 ⟨some 107,(.load1 (.tmp 106)),none⟩,
 .op 11 ⟨some 16,(.move (.tmp 107)),none⟩]))))))
 (.region [⟨some 60,(.move (.tmp 17)),none⟩,
 ⟨some 61,(.bin .add .prim (.tmp 60) (.con (.int .i64 1))),none⟩,
 ⟨some 17,(.move (.tmp 61)),none⟩])))))))
 (.seq (.region [⟨some 108,(.move (.tmp 15)),none⟩,
 ⟨some 109,(.move (.tmp 5)),none⟩,
 ⟨some 110,(.buildSlice [] 0 []),none⟩,
 ⟨some 111,(.move (.tmp 15)),none⟩,
 ⟨some 112,(.append 1 8 (.tmp 110) (.tmp 111)),none⟩,
 ⟨some 113,(.move (.tmp 5)),none⟩,
 ⟨some 114,(.append 1 8 (.tmp 112) (.tmp 113)),none⟩,
 ⟨some 115,(.buildSlice [.nilSlice,.nilSlice,.nilSlice,.nilSlice] 4 [(0,1,(.tmp 108)),(1,1,(.tmp 109)),(2,1,(.tmp 114)),(3,1,(.con .nilSlice))]),none⟩,
 ⟨some 20,(.move (.tmp 115)),none⟩])
 (.seq (.region [⟨some 116,(.move (.tmp 16)),none⟩,
 ⟨some 117,(.move (.tmp 3)),none⟩,
 ⟨some 118,(.fieldAddr 0 (.tmp 13)),none⟩,
 ⟨some 119,(.load1 (.tmp 118)),none⟩,
 ⟨some 120,(.call 18 [(.tmp 117),(.tmp 119)]),none⟩,
 ⟨some 121,(.move (.tmp 3)),none⟩,
 ⟨some 122,(.move (.tmp 14)),none⟩,
 ⟨some 123,(.buildSlice [(.int .i64 0),(.int .i64 0),(.int .i64 0),(.int .i64 0)] 4 [(0,1,(.tmp 116)),(1,1,(.tmp 120)),(2,1,(.tmp 121)),(3,1,(.tmp 122))]),none⟩,
 ⟨some 21,(.move (.tmp 123)),none⟩])
 (.seq (.seq (.region [⟨some 22,(.move (.con (.int .i64 0))),none⟩])
 (.join [false,false,true,true,false,false,false,false,false,false,false,false,true,true,true,true,true] (.block 4 (.loop [false,false,true,true,false,false,false,false,false,false,false,false,false,true,true,true,true,false,false,false,true,true,true] [false,false,true,true,false,false,false,false,false,false,false,false,true,true,true,true,true]
 (.seq (.seq (.region [⟨some 124,(.move (.tmp 22)),none⟩,
 ⟨some 125,(.move (.tmp 20)),none⟩,
 ⟨some 126,(.lenS (.tmp 125)),none⟩,
 ⟨some 127,(.bin .lss .prim (.tmp 124) (.tmp 126)),none⟩])
 (.cond (.tmp 127)
 .skip
 (.exit 4)))
 (.seq (.block 5 (.seq (.region [⟨some 23,(.move (.con (.int .i64 0))),none⟩])
 (.block 6 (.loop [false,false,true,true,false,false,false,false,false,false,false,false,false,true,true,true,true,false,false,false,true,true,true,true] [false,false,true,true,false,false,false,false,false,false,false,false,true,true,true,true,true,false,false,false,true,true,true]
 (.seq (.seq (.region [⟨some 130,(.move (.tmp 23)),none⟩,
 ⟨some 131,(.move (.tmp 21)),none⟩,
 ⟨some 132,(.lenS (.tmp 131)),none⟩,
 ⟨some 133,(.bin .lss .prim (.tmp 130) (.tmp 132)),none⟩])
 (.cond (.tmp 133)
 .skip
 (.exit 6)))
 (.seq (.block 7 (.seq (.dregion [[],[],[],[],[3,2],[2,3,4],[],[],[7,6],[6,7,8],[8,7,6,9,4,3,2,5,1,0],[0,1,5,2,3,4,9,6,7,8,10],[10,8,7,6,9,4,3,2,5,1,0,11],[10,8,7,6,9,4,3,2,5,1,0,11],[10,8,7,6,9,4,3,2,5,1,0,11],[11,0,1,5,2,3,4,9,6,7,8,10,12],[12,15,11,0,1,5,2,3,4,9,6,7,8,10,13],[13,15,12,16,11,0,1,5,2,3,4,9,6,7,8,10,14]] [.op 0 ⟨some 137,(.loadN 2 (.tmp 13)),none⟩,
 .op 1 ⟨some 138,(.move (.tmp 14)),none⟩,
 .op 2 ⟨some 139,(.move (.tmp 21)),none⟩,
 .op 3 ⟨some 140,(.move (.tmp 23)),none⟩,
 .op 4 ⟨some 141,(.indexAddrS 1 (.tmp 139) (.tmp 140)),none⟩,
 .op 5 ⟨some 142,(.load1 (.tmp 141)),none⟩,
 .op 6 ⟨some 143,(.move (.tmp 20)),none⟩,
 .op 7 ⟨some 144,(.move (.tmp 22)),none⟩,
 .op 8 ⟨some 145,(.indexAddrS 1 (.tmp 143) (.tmp 144)),none⟩,
 .op 9 ⟨some 146,(.load1 (.tmp 145)),none⟩,
 .op 10 ⟨some 147,(.call 24 [(.tmp 137),(.tmp 138),(.tmp 142),(.tmp 146)]),none⟩,
 .op 11 ⟨some 136,(.move (.tmp 147)),none⟩,
 .op 12 ⟨some 148,(.extract (.tmp 136) 0),none⟩,
 .op 13 ⟨some 149,(.extract (.tmp 136) 1),none⟩,
 .op 14 ⟨some 150,(.extract (.tmp 136) 2),none⟩,
 .op 15 ⟨some 24,(.move (.tmp 148)),none⟩,
 .op 16 ⟨some 25,(.move (.tmp 149)),none⟩,
 .op 17 ⟨some 26,(.move (.tmp 150)),none⟩])
 (.seq (.dregion [[],[],[],[],[3,2],[2,3,4],[],[],[7,6],[6,7,8],[8,7,6,9,4,3,2,5,1,0],[0,1,5,2,3,4,9,6,7,8,10],[10,8,7,6,9,4,3,2,5,1,0,11],[10,8,7,6,9,4,3,2,5,1,0,11],[10,8,7,6,9,4,3,2,5,1,0,11],[11,0,1,5,2,3,4,9,6,7,8,10,12],[12,15,11,0,1,5,2,3,4,9,6,7,8,10,13],[13,15,12,16,11,0,1,5,2,3,4,9,6,7,8,10,14]] [.op 0 ⟨some 152,(.loadN 2 (.tmp 13)),none⟩,
 .op 1 ⟨some 153,(.move (.tmp 14)),none⟩,
 .op 2 ⟨some 154,(.move (.tmp 21)),none⟩,
 .op 3 ⟨some 155,(.move (.tmp 23)),none⟩,
 .op 4 ⟨some 156,(.indexAddrS 1 (.tmp 154) (.tmp 155)),none⟩,
 .op 5 ⟨some 157,(.load1 (.tmp 156)),none⟩,
 .op 6 ⟨some 158,(.move (.tmp 20)),none⟩,
 .op 7 ⟨some 159,(.move (.tmp 22)),none⟩,
 .op 8 ⟨some 160,(.indexAddrS 1 (.tmp 158) (.tmp 159)),none⟩,
 .op 9 ⟨some 161,(.load1 (.tmp 160)),none⟩,
 .op 10 ⟨some 162,(.call 25 [(.tmp 152),(.tmp 153),(.tmp 157),(.tmp 161)]),none⟩,
 .op 11 ⟨some 151,(.move (.tmp 162)),none⟩,
 .op 12 ⟨some 163,(.extract (.tmp 151) 0),none⟩,
 .op 13 ⟨some 164,(.extract (.tmp 151) 1),none⟩,
 .op 14 ⟨some 165,(.extract (.tmp 151) 2),none⟩,
 .op 15 ⟨some 27,(.move (.tmp 163)),none⟩,
 .op 16 ⟨some 28,(.move (.tmp 164)),none⟩,
 .op 17 ⟨some 29,(.move (.tmp 165)),none⟩])
 (.seq (.region [⟨some 166,(.move (.tmp 24)),none⟩,
 ⟨some 167,(.move (.tmp 27)),none⟩,
 ⟨some 168,(.bin .neq .prim (.tmp 166) (.tmp 167)),none⟩,
 ⟨some 169,(.move (.tmp 168)),none⟩,
 ⟨some 170,(.move (.tmp 26)),some (169,false)⟩,
 ⟨some 171,(.move (.tmp 29)),some (169,false)⟩,
 ⟨some 172,(.bin .neq .plain (.tmp 170) (.tmp 171)),some (169,false)⟩,
 ⟨some 173,(.pick (.tmp 169) (.con (.bool true)) (.tmp 172)),none⟩,
 ⟨some 174,(.move (.tmp 173)),none⟩,
 ⟨some 175,(.move (.tmp 25)),some (174,false)⟩,
 ⟨some 176,(.move (.tmp 28)),some (174,false)⟩,
 ⟨some 177,(.call 26 [(.tmp 175),(.tmp 176)]),some (174,false)⟩,
 ⟨some 178,(.un .not (.tmp 177)),some (174,false)⟩,
 ⟨some 179,(.pick (.tmp 174) (.con (.bool true)) (.tmp 178)),none⟩])
 (.cond (.tmp 179)
 (.seq (.region [⟨some 12,(.move (.con (.bool false))),none⟩])
 .ret)
 .skip)))))
 (.region [⟨some 134,(.move (.tmp 23)),none⟩,
 ⟨some 135,(.bin .add .prim (.tmp 134) (.con (.int .i64 1))),none⟩,
 ⟨some 23,(.move (.tmp 135)),none⟩])))))))
 (.region [⟨some 128,(.move (.tmp 22)),none⟩,
 ⟨some 129,(.bin .add .prim (.tmp 128) (.con (.int .i64 1))),none⟩,
 ⟨some 22,(.move (.tmp 129)),none⟩])))))))
 (.seq (.region [⟨some 181,(.loadN 2 (.tmp 13)),none⟩,
 ⟨some 182,(.move (.tmp 14)),none⟩,
 ⟨some 183,(.move (.tmp 16)),none⟩,
 ⟨some 184,(.move (.tmp 15)),none⟩,
 ⟨some 185,(.call 24 [(.tmp 181),(.tmp 182),(.tmp 183),(.tmp 184)]),none⟩,
 ⟨some 180,(.move (.tmp 185)),none⟩,
 ⟨some 186,(.extract (.tmp 180) 0),none⟩,
 ⟨some 187,(.extract (.tmp 180) 1),none⟩,
 ⟨some 188,(.extract (.tmp 180) 2),none⟩,
 ⟨some 30,(.move (.tmp 186)),none⟩,
 ⟨some 31,(.move (.tmp 187)),none⟩,
 ⟨some 32,(.move (.tmp 188)),none⟩])
 (.seq (.region [⟨some 190,(.loadN 2 (.tmp 13)),none⟩,
 ⟨some 191,(.move (.tmp 2)),none⟩,
 ⟨some 192,(.move (.tmp 3)),none⟩,
 ⟨some 193,(.move (.tmp 15)),none⟩,
 ⟨some 194,(.call 24 [(.tmp 190),(.tmp 191),(.tmp 192),(.tmp 193)]),none⟩,
 ⟨some 189,(.move (.tmp 194)),none⟩,
 ⟨some 195,(.extract (.tmp 189) 0),none⟩,
 ⟨some 196,(.extract (.tmp 189) 1),none⟩,
 ⟨some 197,(.extract (.tmp 189) 2),none⟩,
 ⟨some 33,(.move (.tmp 195)),none⟩,
 ⟨some 34,(.move (.tmp 196)),none⟩,
 ⟨some 35,(.move (.tmp 197)),none⟩])
 (.seq (.region [⟨some 199,(.loadN 2 (.tmp 13)),none⟩,
 ⟨some 200,(.move (.tmp 2)),none⟩,
 ⟨some 201,(.move (.tmp 3)),none⟩,
 ⟨some 202,(.move (.tmp 15)),none⟩,
 ⟨some 203,(.call 25 [(.tmp 199),(.tmp 200),(.tmp 201),(.tmp 202)]),none⟩,
 ⟨some 198,(.move (.tmp 203)),none⟩,
 ⟨some 204,(.extract (.tmp 198) 0),none⟩,
 ⟨some 205,(.extract (.tmp 198) 1),none⟩,
 ⟨some 206,(.extract (.tmp 198) 2),none⟩,
 ⟨some 36,(.move (.tmp 204)),none⟩,
 ⟨some 37,(.move (.tmp 205)),none⟩,
 ⟨some 38,(.move (.tmp 206)),none⟩])
 (.seq (.region [⟨some 207,(.move (.tmp 32)),none⟩,
 ⟨some 208,(.move (.tmp 207)),none⟩,
 ⟨some 209,(.move (.tmp 35)),some (208,true)⟩,
 ⟨some 210,(.move (.tmp 38)),some (208,true)⟩,
 ⟨some 211,(.bin .eql .plain (.tmp 209) (.tmp 210)),some (208,true)⟩,
 ⟨some 212,(.pick (.tmp 208) (.tmp 211) (.con (.bool false))),none⟩,
 ⟨some 12,(.move (.tmp 212)),none⟩])
 .ret)))))))))))))))⟩
theorem F7_ok : cfn tab F7.body Tryd.f7 = some F7 := by kernel_rfl

/- milestone/milestonelaw1.known -/
def F13 : AFn := ⟨50,[.tmp 0],
 (.seq (.region [⟨some 0,(.move (.con (.bool false))),none⟩])
 (.seq (.region [⟨some 8,(.call 20 [(.con (.str ⟨#[]⟩))]),none⟩,
 ⟨some 7,(.move (.tmp 8)),none⟩,
 ⟨some 9,(.extract (.tmp 7) 0),none⟩,
 ⟨some 10,(.extract (.tmp 7) 1),none⟩,
 ⟨some 11,(.extract (.tmp 7) 2),none⟩,
 ⟨some 1,(.alloc [(.int .i64 0),.nilSlice]),none⟩,
 ⟨none,(.store 2 (.tmp 1) (.tmp 9)),none⟩,
 ⟨some 2,(.move (.tmp 10)),none⟩,
 ⟨some 3,(.move (.tmp 11)),none⟩])
 (.seq (.region [⟨some 13,(.call 20 [(.con (.str ⟨#[110,101,116,32,50,10,101,100,103,101,32,48,32,49,32,119,32,53,10]⟩))]),none⟩,
 ⟨some 12,(.move (.tmp 13)),none⟩,
 ⟨some 14,(.extract (.tmp 12) 0),none⟩,
 ⟨some 15,(.extract (.tmp 12) 1),none⟩,
 ⟨some 16,(.extract (.tmp 12) 2),none⟩,
 ⟨some 4,(.alloc [(.int .i64 0),.nilSlice]),none⟩,
 ⟨none,(.store 2 (.tmp 4) (.tmp 14)),none⟩,
 ⟨some 5,(.move (.tmp 15)),none⟩,
 ⟨some 6,(.move (.tmp 16)),none⟩])
 (.seq (.region [⟨some 17,(.move (.tmp 3)),none⟩,
 ⟨some 18,(.bin .eql .prim (.tmp 17) (.con (.int .i64 2))),none⟩,
 ⟨some 19,(.move (.tmp 18)),none⟩,
 ⟨some 20,(.move (.tmp 2)),some (19,true)⟩,
 ⟨some 21,(.bin .eql .prim (.tmp 20) (.con (.int .i64 1))),some (19,true)⟩,
 ⟨some 22,(.pick (.tmp 19) (.tmp 21) (.con (.bool false))),none⟩,
 ⟨some 23,(.move (.tmp 22)),none⟩,
 ⟨some 24,(.move (.tmp 6)),some (23,true)⟩,
 ⟨some 25,(.bin .eql .prim (.tmp 24) (.con (.int .i64 0))),some (23,true)⟩,
 ⟨some 26,(.pick (.tmp 23) (.tmp 25) (.con (.bool false))),none⟩,
 ⟨some 27,(.move (.tmp 26)),none⟩,
 ⟨some 28,(.fieldAddr 0 (.tmp 4)),some (27,true)⟩,
 ⟨some 29,(.load1 (.tmp 28)),some (27,true)⟩,
 ⟨some 30,(.bin .eql .prim (.tmp 29) (.con (.int .i64 2))),some (27,true)⟩,
 ⟨some 31,(.pick (.tmp 27) (.tmp 30) (.con (.bool false))),none⟩,
 ⟨some 32,(.move (.tmp 31)),none⟩,
 ⟨some 33,(.fieldAddr 1 (.tmp 4)),some (32,true)⟩,
 ⟨some 34,(.load1 (.tmp 33)),some (32,true)⟩,
 ⟨some 35,(.lenS (.tmp 34)),some (32,true)⟩,
 ⟨some 36,(.bin .eql .prim (.tmp 35) (.con (.int .i64 1))),some (32,true)⟩,
 ⟨some 37,(.pick (.tmp 32) (.tmp 36) (.con (.bool false))),none⟩,
 ⟨some 38,(.move (.tmp 37)),none⟩,
 ⟨some 39,(.fieldAddr 1 (.tmp 4)),some (38,true)⟩,
 ⟨some 40,(.load1 (.tmp 39)),some (38,true)⟩,
 ⟨some 41,(.indexAddrS 4 (.tmp 40) (.con (.int .i64 0))),some (38,true)⟩,
 ⟨some 42,(.fieldAddr 3 (.tmp 41)),some (38,true)⟩,
 ⟨some 43,(.load1 (.tmp 42)),some (38,true)⟩,
 ⟨some 44,(.bin .eql .prim (.tmp 43) (.con (.int .i64 5))),some (38,true)⟩,
 ⟨some 45,(.pick (.tmp 38) (.tmp 44) (.con (.bool false))),none⟩,
 ⟨some 46,(.move (.tmp 45)),none⟩,
 ⟨some 47,(.loadN 2 (.tmp 4)),some (46,true)⟩,
 ⟨some 48,(.call 16 [(.tmp 47)]),some (46,true)⟩,
 ⟨some 49,(.pick (.tmp 46) (.tmp 48) (.con (.bool false))),none⟩,
 ⟨some 0,(.move (.tmp 49)),none⟩])
 .ret))))⟩
theorem F13_ok : cfn tab F13.body Tryd.f13 = some F13 := by kernel_rfl

/- milestone/milestonelaw1.Make -/
def F15 : AFn := ⟨80,[.cell 2 true 6],
 (.seq (.region [⟨some 6,(.alloc [(.int .i64 0),.nilSlice]),none⟩])
 (.seq (.region [⟨some 11,(.move (.tmp 0)),none⟩,
 ⟨some 12,(.call 18 [(.tmp 11),(.con (.int .i64 12))]),none⟩,
 ⟨some 13,(.bin .add .prim (.con (.int .i64 1)) (.tmp 12)),none⟩,
 ⟨some 14,(.build [(.int .i64 0),.nilSlice] [(0,1,(.tmp 13))]),none⟩,
 ⟨some 7,(.alloc [(.int .i64 0),.nilSlice]),none⟩,
 ⟨none,(.store 2 (.tmp 7) (.tmp 14)),none⟩])
 (.seq (.seq (.region [⟨some 8,(.move (.con (.int .i64 0))),none⟩])
 (.join [false,false,false,false,false,false,true,true] (.block 0 (.loop [false,true,true,false,false,false,true,true,true] [false,false,false,false,false,false,true,true]
 (.seq (.seq (.region [⟨some 15,(.move (.tmp 8)),none⟩,
 ⟨some 16,(.move (.tmp 1)),none⟩,
 ⟨some 17,(.lenS (.tmp 16)),none⟩,
 ⟨some 18,(.bin .lss .prim (.tmp 15) (.tmp 17)),none⟩,
 ⟨some 19,(.move (.tmp 18)),none⟩,
 ⟨some 20,(.move (.tmp 8)),some (19,true)⟩,
 ⟨some 21,(.bin .lss .prim (.tmp 20) (.con (.int .i64 40))),some (19,true)⟩,
 ⟨some 22,(.pick (.tmp 19) (.tmp 21) (.con (.bool false))),none⟩])
 (.cond (.tmp 22)
 .skip
 (.exit 0)))
 (.seq (.block 1 (.seq (.region [⟨some 25,(.move (.tmp 1)),none⟩,
 ⟨some 26,(.move (.tmp 8)),none⟩,
 ⟨some 27,(.indexAddrS 1 (.tmp 25) (.tmp 26)),none⟩,
 ⟨some 28,(.load1 (.tmp 27)),none⟩,
 ⟨some 9,(.move (.tmp 28)),none⟩])
 (.seq (.dregion [[],[],[1],[1,2,0],[],[4],[],[6],[0,2,1,3,6,7,4,5],[],[9],[5,4,7,6,3,1,2,0,8,9,10],[],[12],[10,9,8,0,2,1,3,6,7,4,5,11,12,13],[13,12,14,10,9,11,5,4,7,6,8,0,2,1,3],[],[3,1,2,0,8,6,7,4,5,11,9,10,14,12,13,15,16]] [.op 0 ⟨some 29,(.move (.tmp 9)),none⟩,
 .op 1 ⟨some 30,(.fieldAddr 0 (.tmp 7)),none⟩,
 .op 2 ⟨some 31,(.load1 (.tmp 30)),none⟩,
 .op 4 ⟨some 33,(.move (.tmp 9)),none⟩,
 .op 5 ⟨some 34,(.bin .quo .prim (.tmp 33) (.con (.int .i64 13))),none⟩,
 .op 6 ⟨some 35,(.fieldAddr 0 (.tmp 7)),none⟩,
 .op 7 ⟨some 36,(.load1 (.tmp 35)),none⟩,
 .op 9 ⟨some 38,(.move (.tmp 9)),none⟩,
 .op 10 ⟨some 39,(.bin .quo .prim (.tmp 38) (.con (.int .i64 170))),none⟩,
 .op 12 ⟨some 41,(.move (.tmp 9)),none⟩,
 .op 13 ⟨some 42,(.bin .quo .prim (.tmp 41) (.con (.int .i64 900))),none⟩,
 .op 16 ⟨some 10,(.alloc [(.int .i64 0),(.int .i64 0),(.int .i64 0),(.int .i64 0)]),none⟩,
 .op 3 ⟨some 32,(.call 18 [(.tmp 29),(.tmp 31)]),none⟩,
 .re 7 ⟨some 36,(.load1 (.tmp 35)),none⟩,
 .op 8 ⟨some 37,(.call 18 [(.tmp 34),(.tmp 36)]),none⟩,
 .op 11 ⟨some 40,(.call 18 [(.tmp 39),(.con (.int .i64 5))]),none⟩,
 .op 14 ⟨some 43,(.call 18 [(.tmp 42),(.con (.int .i64 9))]),none⟩,
 .op 15 ⟨some 44,(.build [(.int .i64 0),(.int .i64 0),(.int .i64 0),(.int .i64 0)] [(0,1,(.tmp 32)),(1,1,(.tmp 37)),(2,1,(.tmp 40)),(3,1,(.tmp 43))]),none⟩,
 .op 17 ⟨none,(.store 4 (.tmp 10) (.tmp 44)),none⟩])
 (.seq (.seq (.region [⟨some 45,(.move (.tmp 2)),none⟩,
 ⟨some 46,(.call 18 [(.tmp 45),(.con (.int .i64 3))]),none⟩,
 ⟨some 47,(.bin .eql .prim (.tmp 46) (.con (.int .i64 0))),none⟩])
 (.join [false,true,true,false,false,false,true,true,true,true,true] (.cond (.tmp 47)
 (.region [⟨some 48,(.fieldAddr 0 (.tmp 10)),none⟩,
 ⟨some 49,(.load1 (.tmp 48)),none⟩,
 ⟨some 50,(.fieldAddr 1 (.tmp 10)),none⟩,
 ⟨some 51,(.load1 (.tmp 50)),none⟩,
 ⟨some 52,(.bin .add .prim (.tmp 49) (.tmp 51)),none⟩,
 ⟨some 53,(.call 18 [(.tmp 52),(.con (.int .i64 2))]),none⟩,
 ⟨some 54,(.fieldAddr 2 (.tmp 10)),none⟩,
 ⟨none,(.store 1 (.tmp 54) (.tmp 53)),none⟩])
 (.seq (.region [⟨some 55,(.move (.tmp 2)),none⟩,
 ⟨some 56,(.call 18 [(.tmp 55),(.con (.int .i64 3))]),none⟩,
 ⟨some 57,(.bin .eql .prim (.tmp 56) (.con (.int .i64 1))),none⟩])
 (.join [false,true,true,false,false,false,true,true,true,true,true] (.cond (.tmp 57)
 (.region [⟨some 58,(.fieldAddr 2 (.tmp 10)),none⟩,
 ⟨some 59,(.load1 (.tmp 58)),none⟩,
 ⟨some 60,(.fieldAddr 0 (.tmp 10)),none⟩,
 ⟨some 61,(.load1 (.tmp 60)),none⟩,
 ⟨some 62,(.bin .mul .prim (.tmp 59) (.tmp 61)),none⟩,
 ⟨some 63,(.call 18 [(.tmp 62),(.con (.int .i64 3))]),none⟩,
 ⟨some 64,(.fieldAddr 2 (.tmp 10)),none⟩,
 ⟨none,(.store 1 (.tmp 64) (.tmp 63)),none⟩])
 .skip))))))
 (.seq (.seq (.region [⟨some 65,(.move (.tmp 9)),none⟩,
 ⟨some 66,(.call 18 [(.tmp 65),(.con (.int .i64 31))]),none⟩,
 ⟨some 67,(.bin .eql .prim (.tmp 66) (.con (.int .i64 0))),none⟩])
 (.join [false,true,true,false,false,false,true,true,true,false,true] (.cond (.tmp 67)
 (.region [⟨some 68,(.move (.tmp 9)),none⟩,
 ⟨some 69,(.bin .quo .prim (.tmp 68) (.con (.int .i64 31))),none⟩,
 ⟨some 70,(.call 18 [(.tmp 69),(.con (.int .i64 3))]),none⟩,
 ⟨some 71,(.bin .sub .prim (.con (.int .i64 2147483647)) (.tmp 70)),none⟩,
 ⟨some 72,(.fieldAddr 3 (.tmp 10)),none⟩,
 ⟨none,(.store 1 (.tmp 72) (.tmp 71)),none⟩])
 .skip)))
 (.region [⟨some 73,(.fieldAddr 1 (.tmp 7)),none⟩,
 ⟨some 74,(.load1 (.tmp 73)),none⟩,
 ⟨some 75,(.loadN 4 (.tmp 10)),none⟩,
 ⟨some 76,(.buildSlice [(.int .i64 0),(.int .i64 0),(.int .i64 0),(.int .i64 0)] 1 [(0,4,(.tmp 75))]),none⟩,
 ⟨some 77,(.append 4 32 (.tmp 74) (.tmp 76)),none⟩,
 ⟨some 78,(.fieldAddr 1 (.tmp 7)),none⟩,
 ⟨none,(.store 1 (.tmp 78) (.tmp 77)),none⟩]))))))
 (.region [⟨some 23,(.move (.tmp 8)),none⟩,
 ⟨some 24,(.bin .add .prim (.tmp 23) (.con (.int .i64 1))),none⟩,
 ⟨some 8,(.move (.tmp 24)),none⟩])))))))
 (.seq (.region [⟨some 79,(.loadN 2 (.tmp 7)),none⟩,
 ⟨none,(.store 2 (.tmp 6) (.tmp 79)),none⟩])
 .ret))))⟩
theorem F15_ok : cfn tab F15.body Tryd.f15 = some F15 := by kernel_rfl

/- milestone/net.Check -/
def F16 : AFn := ⟨36,[.tmp 2],
 (.seq (.region [⟨some 1,(.box 2 (.tmp 0)),none⟩,
 ⟨some 2,(.move (.con (.bool false))),none⟩])
 (.seq (.seq (.region [⟨some 6,(.fieldAddr 0 (.tmp 1)),none⟩,
 ⟨some 7,(.load1 (.tmp 6)),none⟩,
 ⟨some 8,(.bin .lss .prim (.tmp 7) (.con (.int .i64 1))),none⟩,
 ⟨some 9,(.move (.tmp 8)),none⟩,
 ⟨some 10,(.fieldAddr 0 (.tmp 1)),some (9,false)⟩,
 ⟨some 11,(.load1 (.tmp 10)),some (9,false)⟩,
 ⟨some 12,(.bin .gtr .prim (.tmp 11) (.con (.int .i64 60))),some (9,false)⟩,
 ⟨some 13,(.pick (.tmp 9) (.con (.bool true)) (.tmp 12)),none⟩,
 ⟨some 14,(.move (.tmp 13)),none⟩,
 ⟨some 15,(.fieldAddr 1 (.tmp 1)),some (14,false)⟩,
 ⟨some 16,(.load1 (.tmp 15)),some (14,false)⟩,
 ⟨some 17,(.lenS (.tmp 16)),some (14,false)⟩,
 ⟨some 18,(.bin .gtr .prim (.tmp 17) (.con (.int .i64 400))),some (14,false)⟩,
 ⟨some 19,(.pick (.tmp 14) (.con (.bool true)) (.tmp 18)),none⟩])
 (.cond (.tmp 19)
 (.seq (.region [⟨some 2,(.move (.con (.bool false))),none⟩])
 .ret)
 .skip))
 (.seq (.region [⟨some 20,(.fieldAddr 0 (.tmp 1)),none⟩,
 ⟨some 21,(.load1 (.tmp 20)),none⟩,
 ⟨some 22,(.build [(.int .i64 0)] [(0,1,(.tmp 21))]),none⟩,
 ⟨some 23,(.mkFunc (.func 28) [(.tmp 22)] []),none⟩,
 ⟨some 3,(.move (.tmp 23)),none⟩])
 (.seq (.seq (.region [⟨some 24,(.fieldAddr 1 (.tmp 1)),none⟩,
 ⟨some 25,(.load1 (.tmp 24)),none⟩,
 ⟨some 26,(.lenS (.tmp 25)),none⟩,
 ⟨some 27,(.move (.con (.int .i64 0))),none⟩])
 (.join [false,false,true] (.block 0 (.loop [false,false,false,true,false,false,false,false,false,false,false,false,false,false,false,false,false,false,false,false,false,false,false,false,false,true,true,true] [false,false,true]
 (.seq (.region [⟨some 28,(.bin .lss .prim (.tmp 27) (.tmp 26)),none⟩])
 (.seq (.cond (.tmp 28)
 .skip
 (.exit 0))
 (.seq (.block 1 (.seq (.region [⟨some 29,(.indexAddrS 4 (.tmp 25) (.tmp 27)),none⟩,
 ⟨some 30,(.loadN 4 (.tmp 29)),none⟩,
 ⟨some 5,(.alloc [(.int .i64 0),(.int .i64 0),(.int .i64 0),(.int .i64 0)]),none⟩,
 ⟨none,(.store 4 (.tmp 5) (.tmp 30)),none⟩])
 (.seq (.region [⟨some 31,(.move (.tmp 3)),none⟩,
 ⟨some 32,(.loadN 4 (.tmp 5)),none⟩,
 ⟨some 33,(.callv (.tmp 31) [(.tmp 32)]),none⟩,
 ⟨some 34,(.un .not (.tmp 33)),none⟩])
 (.cond (.tmp 34)
 (.seq (.region [⟨some 2,(.move (.con (.bool false))),none⟩])
 .ret)
 .skip))))
 (.region [⟨some 35,(.bin .add .prim (.tmp 27) (.con (.int .i64 1))),none⟩,
 ⟨some 27,(.move (.tmp 35)),none⟩]))))))))
 (.seq (.region [⟨some 2,(.move (.con (.bool true))),none⟩])
 .ret)))))⟩
theorem F16_ok : cfn tab F16.body Tryd.f16 = some F16 := by kernel_rfl

/- milestone/milestonelaw1.within -/
def F18 : AFn := ⟨15,[.tmp 4],
 (.seq (.region [⟨some 4,(.move (.con (.int .i64 0))),none⟩])
 (.seq (.region [⟨some 6,(.move (.tmp 0)),none⟩,
 ⟨some 7,(.move (.tmp 1)),none⟩,
 ⟨some 8,(.bin .rem .prim (.tmp 6) (.tmp 7)),none⟩,
 ⟨some 5,(.move (.tmp 8)),none⟩])
 (.seq (.seq (.region [⟨some 9,(.move (.tmp 5)),none⟩,
 ⟨some 10,(.bin .lss .prim (.tmp 9) (.con (.int .i64 0))),none⟩])
 (.join [false,false,false,false,true,true] (.cond (.tmp 10)
 (.region [⟨some 11,(.move (.tmp 5)),none⟩,
 ⟨some 12,(.move (.tmp 1)),none⟩,
 ⟨some 13,(.bin .add .prim (.tmp 11) (.tmp 12)),none⟩,
 ⟨some 5,(.move (.tmp 13)),none⟩])
 .skip)))
 (.seq (.region [⟨some 14,(.move (.tmp 5)),none⟩,
 ⟨some 4,(.move (.tmp 14)),none⟩])
 .ret))))⟩
theorem F18_ok : cfn tab F18.body Tryd.f18 = some F18 := by kernel_rfl

/- milestone/net.Parse -/
def F20 : AFn := ⟨40,[.cell 2 true 2,.tmp 3,.tmp 4],
 (.seq (.region [⟨some 2,(.alloc [(.int .i64 0),.nilSlice]),none⟩,
 ⟨some 3,(.move (.con (.int .i64 0))),none⟩,
 ⟨some 4,(.move (.con (.int .i64 0))),none⟩])
 (.seq (.seq (.region [⟨some 7,(.move (.tmp 0)),none⟩,
 ⟨some 8,(.lenStr (.tmp 7)),none⟩,
 ⟨some 9,(.bin .gtr .prim (.tmp 8) (.con (.int .i64 60000))),none⟩])
 (.cond (.tmp 9)
 (.seq (.region [⟨some 10,(.build [(.int .i64 0),.nilSlice] []),none⟩,
 ⟨none,(.store 2 (.tmp 2) (.tmp 10)),none⟩,
 ⟨some 3,(.move (.con (.int .i64 0))),none⟩,
 ⟨some 4,(.move (.con (.int .i64 2))),none⟩])
 .ret)
 .skip))
 (.seq (.seq (.region [⟨some 11,(.move (.tmp 0)),none⟩,
 ⟨some 12,(.call 31 [(.tmp 11),(.con (.str ⟨#[10]⟩))]),none⟩,
 ⟨some 13,(.lenS (.tmp 12)),none⟩,
 ⟨some 14,(.move (.con (.int .i64 0))),none⟩])
 (.join [false,false,true,true,true] (.block 0 (.loop [false,false,true,false,false,false,false,false,false,false,false,false,true,true,true] [false,false,true,true,true]
 (.seq (.region [⟨some 15,(.bin .lss .prim (.tmp 14) (.tmp 13)),none⟩])
 (.seq (.cond (.tmp 15)
 .skip
 (.exit 0))
 (.seq (.block 1 (.seq (.region [⟨some 16,(.move (.tmp 14)),none⟩,
 ⟨some 17,(.indexAddrS 1 (.tmp 12) (.tmp 14)),none⟩,
 ⟨some 18,(.load1 (.tmp 17)),none⟩,
 ⟨some 5,(.move (.tmp 16)),none⟩,
 ⟨some 6,(.move (.tmp 18)),none⟩])
 (.seq (.region [⟨some 19,(.move (.tmp 6)),none⟩,
 ⟨some 20,(.bin .neq .prim (.tmp 19) (.con (.str ⟨#[]⟩))),none⟩,
 ⟨some 21,(.move (.tmp 20)),none⟩,
 ⟨some 22,(.move (.tmp 6)),some (21,true)⟩,
 ⟨some 23,(.call 33 [(.tmp 22)]),some (21,true)⟩,
 ⟨some 24,(.call 32 [(.tmp 2),(.tmp 23)]),some (21,true)⟩,
 ⟨some 25,(.un .not (.tmp 24)),some (21,true)⟩,
 ⟨some 26,(.pick (.tmp 21) (.tmp 25) (.con (.bool false))),none⟩])
 (.cond (.tmp 26)
 (.seq (.region [⟨some 27,(.build [(.int .i64 0),.nilSlice] []),none⟩,
 ⟨some 28,(.move (.tmp 5)),none⟩,
 ⟨some 29,(.bin .add .prim (.tmp 28) (.con (.int .i64 1))),none⟩,
 ⟨none,(.store 2 (.tmp 2) (.tmp 27)),none⟩,
 ⟨some 3,(.move (.tmp 29)),none⟩,
 ⟨some 4,(.move (.con (.int .i64 2))),none⟩])
 .ret)
 .skip))))
 (.region [⟨some 30,(.bin .add .prim (.tmp 14) (.con (.int .i64 1))),none⟩,
 ⟨some 14,(.move (.tmp 30)),none⟩]))))))))
 (.seq (.seq (.region [⟨some 31,(.fieldAddr 0 (.tmp 2)),none⟩,
 ⟨some 32,(.load1 (.tmp 31)),none⟩,
 ⟨some 33,(.bin .eql .prim (.tmp 32) (.con (.int .i64 0))),none⟩])
 (.cond (.tmp 33)
 (.seq (.region [⟨some 34,(.build [(.int .i64 0),.nilSlice] []),none⟩,
 ⟨none,(.store 2 (.tmp 2) (.tmp 34)),none⟩,
 ⟨some 3,(.move (.con (.int .i64 1))),none⟩,
 ⟨some 4,(.move (.con (.int .i64 2))),none⟩])
 .ret)
 .skip))
 (.seq (.region [⟨some 35,(.fieldAddr 1 (.tmp 2)),none⟩,
 ⟨some 36,(.load1 (.tmp 35)),none⟩,
 ⟨some 37,(.append 4 32 (.con .nilSlice) (.tmp 36)),none⟩,
 ⟨some 38,(.fieldAddr 1 (.tmp 2)),none⟩,
 ⟨none,(.store 1 (.tmp 38) (.tmp 37)),none⟩])
 (.seq (.region [⟨some 39,(.loadN 2 (.tmp 2)),none⟩,
 ⟨none,(.store 2 (.tmp 2) (.tmp 39)),none⟩,
 ⟨some 3,(.move (.con (.int .i64 0))),none⟩,
 ⟨some 4,(.move (.con (.int .i64 0))),none⟩])
 .ret))))))⟩
theorem F20_ok : cfn tab F20.body Tryd.f20 = some F20 := by kernel_rfl

/- milestone/net.Walk -/
def F24 : AFn := ⟨79,[.tmp 8,.tmp 9,.tmp 10],
 (.seq (.region [⟨some 4,(.box 2 (.tmp 0)),none⟩,
 ⟨some 8,(.move (.con (.int .i64 0))),none⟩,
 ⟨some 9,(.move (.con .nilSlice)),none⟩,
 ⟨some 10,(.move (.con (.bool false))),none⟩])
 (.seq (.region [⟨some 16,(.fieldAddr 0 (.tmp 4)),none⟩,
 ⟨some 17,(.load1 (.tmp 16)),none⟩,
 ⟨some 18,(.build [(.int .i64 0)] [(0,1,(.tmp 17))]),none⟩,
 ⟨some 19,(.mkFunc (.func 35) [(.tmp 18)] []),none⟩,
 ⟨some 11,(.move (.tmp 19)),none⟩])
 (.seq (.seq (.region [⟨some 20,(.move (.tmp 11)),none⟩,
 ⟨some 21,(.move (.tmp 1)),none⟩,
 ⟨some 22,(.callv (.tmp 20) [(.tmp 21)]),none⟩,
 ⟨some 23,(.un .not (.tmp 22)),none⟩,
 ⟨some 24,(.move (.tmp 23)),none⟩,
 ⟨some 25,(.move (.tmp 11)),some (24,false)⟩,
 ⟨some 26,(.move (.tmp 2)),some (24,false)⟩,
 ⟨some 27,(.callv (.tmp 25) [(.tmp 26)]),some (24,false)⟩,
 ⟨some 28,(.un .not (.tmp 27)),some (24,false)⟩,
 ⟨some 29,(.pick (.tmp 24) (.con (.bool true)) (.tmp 28)),none⟩])
 (.cond (.tmp 29)
 (.seq (.region [⟨some 8,(.move (.con (.int .i64 0))),none⟩,
 ⟨some 9,(.move (.con .nilSlice)),none⟩,
 ⟨some 10,(.move (.con (.bool false))),none⟩])
 .ret)
 .skip))
 (.seq (.region [⟨some 30,(.move (.tmp 1)),none⟩,
 ⟨some 12,(.move (.tmp 30)),none⟩])
 (.seq (.seq (.region [⟨some 31,(.move (.tmp 3)),none⟩,
 ⟨some 32,(.lenS (.tmp 31)),none⟩,
 ⟨some 33,(.move (.con (.int .i64 0))),none⟩])
 (.join [false,false,true,false,false,false,false,false,true,true,true,false,true] (.block 0 (.loop [false,false,true,false,true,false,false,false,true,true,false,false,true,false,false,false,false,false,false,false,false,false,false,false,false,false,false,false,false,false,false,true,true,true] [false,false,true,false,false,false,false,false,true,true,true,false,true]
 (.seq (.region [⟨some 34,(.bin .lss .prim (.tmp 33) (.tmp 32)),none⟩])
 (.seq (.cond (.tmp 34)
 .skip
 (.exit 0))
 (.seq (.block 1 (.seq (.region [⟨some 35,(.indexAddrS 1 (.tmp 31) (.tmp 33)),none⟩,
 ⟨some 36,(.load1 (.tmp 35)),none⟩,
 ⟨some 14,(.move (.tmp 36)),none⟩])
 (.seq (.seq (.region [⟨some 37,(.move (.tmp 14)),none⟩,
 ⟨some 38,(.bin .lss .prim (.tmp 37) (.con (.int .i64 0))),none⟩,
 ⟨some 39,(.move (.tmp 38)),none⟩,
 ⟨some 40,(.move (.tmp 14)),some (39,false)⟩,
 ⟨some 41,(.fieldAddr 1 (.tmp 4)),some (39,false)⟩,
 ⟨some 42,(.load1 (.tmp 41)),some (39,false)⟩,
 ⟨some 43,(.lenS (.tmp 42)),some (39,false)⟩,
 ⟨some 44,(.bin .geq .prim (.tmp 40) (.tmp 43)),some (39,false)⟩,
 ⟨some 45,(.pick (.tmp 39) (.con (.bool true)) (.tmp 44)),none⟩,
 ⟨some 46,(.move (.tmp 45)),none⟩,
 ⟨some 47,(.fieldAddr 1 (.tmp 4)),some (46,false)⟩,
 ⟨some 48,(.load1 (.tmp 47)),some (46,false)⟩,
 ⟨some 49,(.move (.tmp 14)),some (46,false)⟩,
 ⟨some 50,(.indexAddrS 4 (.tmp 48) (.tmp 49)),some (46,false)⟩,
 ⟨some 51,(.fieldAddr 0 (.tmp 50)),some (46,false)⟩,
 ⟨some 52,(.load1 (.tmp 51)),some (46,false)⟩,
 ⟨some 53,(.move (.tmp 12)),some (46,false)⟩,
 ⟨some 54,(.bin .neq .prim (.tmp 52) (.tmp 53)),some (46,false)⟩,
 ⟨some 55,(.pick (.tmp 46) (.con (.bool true)) (.tmp 54)),none⟩])
 (.cond (.tmp 55)
 (.seq (.region [⟨some 8,(.move (.con (.int .i64 0))),none⟩,
 ⟨some 9,(.move (.con .nilSlice)),none⟩,
 ⟨some 10,(.move (.con (.bool false))),none⟩])
 .ret)
 .skip))
 (.seq (.region [⟨some 56,(.fieldAddr 1 (.tmp 4)),none⟩,
 ⟨some 57,(.load1 (.tmp 56)),none⟩,
 ⟨some 58,(.move (.tmp 14)),none⟩,
 ⟨some 59,(.indexAddrS 4 (.tmp 57) (.tmp 58)),none⟩,
 ⟨some 60,(.loadN 4 (.tmp 59)),none⟩,
 ⟨some 15,(.alloc [(.int .i64 0),(.int .i64 0),(.int .i64 0),(.int .i64 0)]),none⟩,
 ⟨none,(.store 4 (.tmp 15) (.tmp 60)),none⟩])
 (.dregion [[],[0],[],[],[3],[3,4,2],[],[],[7],[7,8],[8,7,9,6],[6,9,7,8,10,0,1],[1,0,10,8,7,9,6,11,2,4,3,5],[5,3,4,2,11,0,1,12,6,9,7,8,10]] [.op 0 ⟨some 61,(.fieldAddr 1 (.tmp 15)),none⟩,
 .op 1 ⟨some 62,(.load1 (.tmp 61)),none⟩,
 .op 2 ⟨some 63,(.move (.tmp 8)),none⟩,
 .op 3 ⟨some 64,(.fieldAddr 3 (.tmp 15)),none⟩,
 .op 4 ⟨some 65,(.load1 (.tmp 64)),none⟩,
 .op 5 ⟨some 66,(.bin .add .prim (.tmp 63) (.tmp 65)),none⟩,
 .op 6 ⟨some 67,(.move (.tmp 9)),none⟩,
 .op 7 ⟨some 68,(.fieldAddr 2 (.tmp 15)),none⟩,
 .op 8 ⟨some 69,(.load1 (.tmp 68)),none⟩,
 .op 9 ⟨some 70,(.buildSlice [(.int .i64 0)] 1 [(0,1,(.tmp 69))]),none⟩,
 .op 10 ⟨some 71,(.append 1 8 (.tmp 67) (.tmp 70)),none⟩,
 .re 1 ⟨some 62,(.load1 (.tmp 61)),none⟩,
 .re 4 ⟨some 65,(.load1 (.tmp 64)),none⟩,
 .op 11 ⟨some 12,(.move (.tmp 62)),none⟩,
 .op 12 ⟨some 8,(.move (.tmp 66)),none⟩,
 .op 13 ⟨some 9,(.move (.tmp 71)),none⟩])))))
 (.region [⟨some 72,(.bin .add .prim (.tmp 33) (.con (.int .i64 1))),none⟩,
 ⟨some 33,(.move (.tmp 72)),none⟩]))))))))
 (.seq (.seq (.region [⟨some 73,(.move (.tmp 12)),none⟩,
 ⟨some 74,(.move (.tmp 2)),none⟩,
 ⟨some 75,(.bin .neq .prim (.tmp 73) (.tmp 74)),none⟩])
 (.cond (.tmp 75)
 (.seq (.region [⟨some 8,(.move (.con (.int .i64 0))),none⟩,
 ⟨some 9,(.move (.con .nilSlice)),none⟩,
 ⟨some 10,(.move (.con (.bool false))),none⟩])
 .ret)
 .skip))
 (.seq (.region [⟨some 76,(.move (.tmp 8)),none⟩,
 ⟨some 77,(.move (.tmp 9)),none⟩,
 ⟨some 78,(.append 1 8 (.con .nilSlice) (.tmp 77)),none⟩,
 ⟨some 8,(.move (.tmp 76)),none⟩,
 ⟨some 9,(.move (.tmp 78)),none⟩,
 ⟨some 10,(.move (.con (.bool true))),none⟩])
 .ret)))))))⟩
theorem F24_ok : cfn tab F24.body Tryd.f24 = some F24 := by kernel_rfl

/- milestone/milestoneref1.Walk -/
def F25 : AFn := ⟨91,[.tmp 8,.tmp 9,.tmp 10],
 (.seq (.region [⟨some 4,(.box 2 (.tmp 0)),none⟩,
 ⟨some 8,(.move (.con (.int .i64 0))),none⟩,
 ⟨some 9,(.move (.con .nilSlice)),none⟩,
 ⟨some 10,(.move (.con (.bool false))),none⟩])
 (.seq (.seq (.region [⟨some 15,(.move (.tmp 1)),none⟩,
 ⟨some 16,(.bin .lss .prim (.tmp 15) (.con (.int .i64 0))),none⟩,
 ⟨some 17,(.move (.tmp 16)),none⟩,
 ⟨some 18,(.move (.tmp 1)),some (17,false)⟩,
 ⟨some 19,(.fieldAddr 0 (.tmp 4)),some (17,false)⟩,
 ⟨some 20,(.load1 (.tmp 19)),some (17,false)⟩,
 ⟨some 21,(.bin .geq .prim (.tmp 18) (.tmp 20)),some (17,false)⟩,
 ⟨some 22,(.pick (.tmp 17) (.con (.bool true)) (.tmp 21)),none⟩,
 ⟨some 23,(.move (.tmp 22)),none⟩,
 ⟨some 24,(.move (.tmp 2)),some (23,false)⟩,
 ⟨some 25,(.bin .lss .prim (.tmp 24) (.con (.int .i64 0))),some (23,false)⟩,
 ⟨some 26,(.pick (.tmp 23) (.con (.bool true)) (.tmp 25)),none⟩,
 ⟨some 27,(.move (.tmp 26)),none⟩,
 ⟨some 28,(.move (.tmp 2)),some (27,false)⟩,
 ⟨some 29,(.fieldAddr 0 (.tmp 4)),some (27,false)⟩,
 ⟨some 30,(.load1 (.tmp 29)),some (27,false)⟩,
 ⟨some 31,(.bin .geq .prim (.tmp 28) (.tmp 30)),some (27,false)⟩,
 ⟨some 32,(.pick (.tmp 27) (.con (.bool true)) (.tmp 31)),none⟩])
 (.cond (.tmp 32)
 (.seq (.region [⟨some 8,(.move (.con (.int .i64 0))),none⟩,
 ⟨some 9,(.move (.con .nilSlice)),none⟩,
 ⟨some 10,(.move (.con (.bool false))),none⟩])
 .ret)
 .skip))
 (.seq (.region [⟨some 11,(.move (.con (.int .i64 0))),none⟩])
 (.seq (.region [⟨some 12,(.move (.con .nilSlice)),none⟩])
 (.seq (.seq (.region [⟨some 13,(.move (.con (.int .i64 0))),none⟩])
 (.join [false,true,true,false,false,false,false,false,true,true,true,true,true] (.block 0 (.loop [false,true,true,true,true,false,false,false,false,false,false,true,true,true] [false,true,true,false,false,false,false,false,true,true,true,true,true]
 (.seq (.seq (.region [⟨some 33,(.move (.tmp 13)),none⟩,
 ⟨some 34,(.move (.tmp 3)),none⟩,
 ⟨some 35,(.lenS (.tmp 34)),none⟩,
 ⟨some 36,(.bin .lss .prim (.tmp 33) (.tmp 35)),none⟩])
 (.cond (.tmp 36)
 .skip
 (.exit 0)))
 (.seq (.block 1 (.seq (.seq (.dregion [[],[],[1,0],[0,1,2],[2,1,0,3],[3,0,1,2,4],[4,2,1,0,3,5],[4,2,1,0,3,5],[7,5,3,0,1,2,4,6],[6,4,2,1,0,3,5,7,8],[4,2,1,0,3,5],[5,3,0,1,2,4,10],[10,4,2,1,0,3,5,11],[11,10,12,8,7,5,3,0,1,2,4,6,9],[9,6,7,8,12,10,11,13,4,2,1,0,3,5],[5,3,0,1,2,4,13,11,10,12,8,7,6,9,14],[14,9,6,7,8,12,10,11,13,4,2,1,0,3,5,15],[15,5,3,0,1,2,4,13,11,10,12,8,7,6,9,14,16],[14,9,6,7,8,12,10,11,13,4,2,1,0,3,5,15],[14,9,6,7,8,12,10,11,13,4,2,1,0,3,5,15],[19,15,5,3,0,1,2,4,13,11,10,12,8,7,6,9,14,18],[18,14,9,6,7,8,12,10,11,13,4,2,1,0,3,5,15,19,20],[20,19,18,21,16,14,9,6,7,8,12,10,11,13,4,2,1,0,3,5,15,17],[17,15,5,3,0,1,2,4,13,11,10,12,8,7,6,9,14,16,21,18,19,20,22],[22,20,19,18,21,16,14,9,6,7,8,12,10,11,13,4,2,1,0,3,5,15,17,23],[14,9,6,7,8,12,10,11,13,4,2,1,0,3,5,15],[25,23,17,15,5,3,0,1,2,4,13,11,10,12,8,7,6,9,14,16,21,18,19,20,22,24],[24,22,20,19,18,21,16,17,23,25,26,14,9,6,7,8,12,10,11,13,4,2,1,0,3,5,15]] [.op 0 ⟨some 39,(.move (.tmp 3)),none⟩,
 .op 1 ⟨some 40,(.move (.tmp 13)),none⟩,
 .op 2 ⟨some 41,(.indexAddrS 1 (.tmp 39) (.tmp 40)),none⟩,
 .op 3 ⟨some 42,(.load1 (.tmp 41)),none⟩,
 .op 4 ⟨some 43,(.bin .lss .prim (.tmp 42) (.con (.int .i64 0))),none⟩,
 .op 5 ⟨some 44,(.move (.tmp 43)),none⟩,
 .op 6 ⟨some 45,(.move (.tmp 3)),some (44,false)⟩,
 .op 7 ⟨some 46,(.move (.tmp 13)),some (44,false)⟩,
 .op 8 ⟨some 47,(.indexAddrS 1 (.tmp 45) (.tmp 46)),some (44,false)⟩,
 .op 9 ⟨some 48,(.load1 (.tmp 47)),some (44,false)⟩,
 .op 10 ⟨some 49,(.fieldAddr 1 (.tmp 4)),some (44,false)⟩,
 .op 11 ⟨some 50,(.load1 (.tmp 49)),some (44,false)⟩,
 .op 12 ⟨some 51,(.lenS (.tmp 50)),some (44,false)⟩,
 .op 13 ⟨some 52,(.bin .geq .prim (.tmp 48) (.tmp 51)),some (44,false)⟩,
 .op 14 ⟨some 53,(.pick (.tmp 44) (.con (.bool true)) (.tmp 52)),none⟩,
 .op 15 ⟨some 54,(.move (.tmp 53)),none⟩,
 .op 16 ⟨some 55,(.fieldAddr 1 (.tmp 4)),some (54,false)⟩,
 .op 17 ⟨some 56,(.load1 (.tmp 55)),some (54,false)⟩,
 .op 18 ⟨some 57,(.move (.tmp 3)),some (54,false)⟩,
 .op 19 ⟨some 58,(.move (.tmp 13)),some (54,false)⟩,
 .op 20 ⟨some 59,(.indexAddrS 1 (.tmp 57) (.tmp 58)),some (54,false)⟩,
 .op 21 ⟨some 60,(.load1 (.tmp 59)),some (54,false)⟩,
 .op 22 ⟨some 61,(.indexAddrS 4 (.tmp 56) (.tmp 60)),some (54,false)⟩,
 .op 23 ⟨some 62,(.fieldAddr 0 (.tmp 61)),some (54,false)⟩,
 .op 24 ⟨some 63,(.load1 (.tmp 62)),some (54,false)⟩,
 .op 25 ⟨some 64,(.move (.tmp 1)),some (54,false)⟩,
 .op 26 ⟨some 65,(.bin .neq .prim (.tmp 63) (.tmp 64)),some (54,false)⟩,
 .op 27 ⟨some 66,(.pick (.tmp 54) (.con (.bool true)) (.tmp 65)),none⟩])
 (.cond (.tmp 66)
 (.seq (.region [⟨some 8,(.move (.con (.int .i64 0))),none⟩,
 ⟨some 9,(.move (.con .nilSlice)),none⟩,
 ⟨some 10,(.move (.con (.bool false))),none⟩])
 .ret)
 .skip))
 (.seq (.dregion [[],[0],[],[],[3,2],[2,3,4],[4,3,2,5,0,1],[1,0,5,2,3,4,6],[],[6,4,3,2,5,0,1,7,8]] [.op 0 ⟨some 67,(.fieldAddr 1 (.tmp 4)),none⟩,
 .op 1 ⟨some 68,(.load1 (.tmp 67)),none⟩,
 .op 2 ⟨some 69,(.move (.tmp 3)),none⟩,
 .op 3 ⟨some 70,(.move (.tmp 13)),none⟩,
 .op 4 ⟨some 71,(.indexAddrS 1 (.tmp 69) (.tmp 70)),none⟩,
 .op 5 ⟨some 72,(.load1 (.tmp 71)),none⟩,
 .op 6 ⟨some 73,(.indexAddrS 4 (.tmp 68) (.tmp 72)),none⟩,
 .op 7 ⟨some 74,(.loadN 4 (.tmp 73)),none⟩,
 .op 8 ⟨some 14,(.alloc [(.int .i64 0),(.int .i64 0),(.int .i64 0),(.int .i64 0)]),none⟩,
 .op 9 ⟨none,(.store 4 (.tmp 14) (.tmp 74)),none⟩])
 (.seq (.dregion [[],[0],[],[],[3],[3,4,2],[0,1],[1,0,6,2,4,3,5]] [.op 0 ⟨some 75,(.fieldAddr 1 (.tmp 14)),none⟩,
 .op 1 ⟨some 76,(.load1 (.tmp 75)),none⟩,
 .op 2 ⟨some 77,(.move (.tmp 11)),none⟩,
 .op 3 ⟨some 78,(.fieldAddr 3 (.tmp 14)),none⟩,
 .op 4 ⟨some 79,(.load1 (.tmp 78)),none⟩,
 .op 5 ⟨some 80,(.bin .add .prim (.tmp 77) (.tmp 79)),none⟩,
 .op 6 ⟨some 1,(.move (.tmp 76)),none⟩,
 .op 7 ⟨some 11,(.move (.tmp 80)),none⟩])
 (.region [⟨some 81,(.move (.tmp 12)),none⟩,
 ⟨some 82,(.fieldAddr 2 (.tmp 14)),none⟩,
 ⟨some 83,(.load1 (.tmp 82)),none⟩,
 ⟨some 84,(.buildSlice [(.int .i64 0)] 1 [(0,1,(.tmp 83))]),none⟩,
 ⟨some 85,(.append 1 8 (.tmp 81) (.tmp 84)),none⟩,
 ⟨some 12,(.move (.tmp 85)),none⟩])))))
 (.region [⟨some 37,(.move (.tmp 13)),none⟩,
 ⟨some 38,(.bin .add .prim (.tmp 37) (.con (.int .i64 1))),none⟩,
 ⟨some 13,(.move (.tmp 38)),none⟩])))))))
 (.seq (.seq (.region [⟨some 86,(.move (.tmp 1)),none⟩,
 ⟨some 87,(.move (.tmp 2)),none⟩,
 ⟨some 88,(.bin .neq .prim (.tmp 86) (.tmp 87)),none⟩])
 (.cond (.tmp 88)
 (.seq (.region [⟨some 8,(.move (.con (.int .i64 0))),none⟩,
 ⟨some 9,(.move (.con .nilSlice)),none⟩,
 ⟨some 10,(.move (.con (.bool false))),none⟩])
 .ret)
 .skip))
 (.seq (.region [⟨some 89,(.move (.tmp 11)),none⟩,
 ⟨some 90,(.move (.tmp 12)),none⟩,
 ⟨some 8,(.move (.tmp 89)),none⟩,
 ⟨some 9,(.move (.tmp 90)),none⟩,
 ⟨some 10,(.move (.con (.bool true))),none⟩])
 .ret)))))))⟩
theorem F25_ok : cfn tab F25.body Tryd.f25 = some F25 := by kernel_rfl

/- milestone/milestoneref1.Ints -/
def F26 : AFn := ⟨26,[.tmp 4],
 (.seq (.region [⟨some 4,(.move (.con (.bool false))),none⟩])
 (.seq (.seq (.region [⟨some 6,(.move (.tmp 0)),none⟩,
 ⟨some 7,(.lenS (.tmp 6)),none⟩,
 ⟨some 8,(.move (.tmp 1)),none⟩,
 ⟨some 9,(.lenS (.tmp 8)),none⟩,
 ⟨some 10,(.bin .neq .prim (.tmp 7) (.tmp 9)),none⟩])
 (.cond (.tmp 10)
 (.seq (.region [⟨some 4,(.move (.con (.bool false))),none⟩])
 .ret)
 .skip))
 (.seq (.seq (.region [⟨some 5,(.move (.con (.int .i64 0))),none⟩])
 (.join [false,false,false,false,true] (.block 0 (.loop [true,true,false,false,false,true] [false,false,false,false,true]
 (.seq (.seq (.region [⟨some 11,(.move (.tmp 5)),none⟩,
 ⟨some 12,(.move (.tmp 0)),none⟩,
 ⟨some 13,(.lenS (.tmp 12)),none⟩,
 ⟨some 14,(.bin .lss .prim (.tmp 11) (.tmp 13)),none⟩])
 (.cond (.tmp 14)
 .skip
 (.exit 0)))
 (.seq (.block 1 (.seq (.dregion [[],[],[1,0],[0,1,2],[],[],[5,4],[4,5,6],[6,5,4,7,2,1,0,3]] [.op 0 ⟨some 17,(.move (.tmp 0)),none⟩,
 .op 1 ⟨some 18,(.move (.tmp 5)),none⟩,
 .op 2 ⟨some 19,(.indexAddrS 1 (.tmp 17) (.tmp 18)),none⟩,
 .op 3 ⟨some 20,(.load1 (.tmp 19)),none⟩,
 .op 4 ⟨some 21,(.move (.tmp 1)),none⟩,
 .op 5 ⟨some 22,(.move (.tmp 5)),none⟩,
 .op 6 ⟨some 23,(.indexAddrS 1 (.tmp 21) (.tmp 22)),none⟩,
 .op 7 ⟨some 24,(.load1 (.tmp 23)),none⟩,
 .op 8 ⟨some 25,(.bin .neq .prim (.tmp 20) (.tmp 24)),none⟩])
 (.cond (.tmp 25)
 (.seq (.region [⟨some 4,(.move (.con (.bool false))),none⟩])
 .ret)
 .skip)))
 (.region [⟨some 15,(.move (.tmp 5)),none⟩,
 ⟨some 16,(.bin .add .prim (.tmp 15) (.con (.int .i64 1))),none⟩,
 ⟨some 5,(.move (.tmp 16)),none⟩])))))))
 (.seq (.region [⟨some 4,(.move (.con (.bool true))),none⟩])
 .ret))))⟩
theorem F26_ok : cfn tab F26.body Tryd.f26 = some F26 := by kernel_rfl

/- (milestone/net.checker).edge -/
def F28 : AFn := ⟨38,[.tmp 4],
 (.seq (.region [⟨some 2,(.box 1 (.tmp 0)),none⟩,
 ⟨some 3,(.box 4 (.tmp 1)),none⟩,
 ⟨some 4,(.move (.con (.bool false))),none⟩])
 (.seq (.region [⟨some 6,(.loadN 1 (.tmp 2)),none⟩,
 ⟨some 7,(.mkFunc (.func 35) [(.tmp 6)] []),none⟩,
 ⟨some 5,(.move (.tmp 7)),none⟩])
 (.seq (.region [⟨some 8,(.move (.tmp 5)),none⟩,
 ⟨some 9,(.fieldAddr 0 (.tmp 3)),none⟩,
 ⟨some 10,(.load1 (.tmp 9)),none⟩,
 ⟨some 11,(.callv (.tmp 8) [(.tmp 10)]),none⟩,
 ⟨some 12,(.move (.tmp 11)),none⟩,
 ⟨some 13,(.move (.tmp 5)),some (12,true)⟩,
 ⟨some 14,(.fieldAddr 1 (.tmp 3)),some (12,true)⟩,
 ⟨some 15,(.load1 (.tmp 14)),some (12,true)⟩,
 ⟨some 16,(.callv (.tmp 13) [(.tmp 15)]),some (12,true)⟩,
 ⟨some 17,(.pick (.tmp 12) (.tmp 16) (.con (.bool false))),none⟩,
 ⟨some 18,(.move (.tmp 17)),none⟩,
 ⟨some 19,(.fieldAddr 2 (.tmp 3)),some (18,true)⟩,
 ⟨some 20,(.load1 (.tmp 19)),some (18,true)⟩,
 ⟨some 21,(.bin .geq .prim (.tmp 20) (.con (.int .i64 0))),some (18,true)⟩,
 ⟨some 22,(.pick (.tmp 18) (.tmp 21) (.con (.bool false))),none⟩,
 ⟨some 23,(.move (.tmp 22)),none⟩,
 ⟨some 24,(.fieldAddr 2 (.tmp 3)),some (23,true)⟩,
 ⟨some 25,(.load1 (.tmp 24)),some (23,true)⟩,
 ⟨some 26,(.bin .lss .prim (.tmp 25) (.con (.int .i64 5))),some (23,true)⟩,
 ⟨some 27,(.pick (.tmp 23) (.tmp 26) (.con (.bool false))),none⟩,
 ⟨some 28,(.move (.tmp 27)),none⟩,
 ⟨some 29,(.fieldAddr 3 (.tmp 3)),some (28,true)⟩,
 ⟨some 30,(.load1 (.tmp 29)),some (28,true)⟩,
 ⟨some 31,(.bin .geq .prim (.tmp 30) (.con (.int .i64 0))),some (28,true)⟩,
 ⟨some 32,(.pick (.tmp 28) (.tmp 31) (.con (.bool false))),none⟩,
 ⟨some 33,(.move (.tmp 32)),none⟩,
 ⟨some 34,(.fieldAddr 3 (.tmp 3)),some (33,true)⟩,
 ⟨some 35,(.load1 (.tmp 34)),some (33,true)⟩,
 ⟨some 36,(.bin .leq .prim (.tmp 35) (.con (.int .i64 2147483647))),some (33,true)⟩,
 ⟨some 37,(.pick (.tmp 33) (.tmp 36) (.con (.bool false))),none⟩,
 ⟨some 4,(.move (.tmp 37)),none⟩])
 .ret)))⟩
theorem F28_ok : cfn tab F28.body Tryd.f28 = some F28 := by kernel_rfl

/- milestone/net.add -/
def F32 : AFn := ⟨65,[.tmp 4],
 (.seq (.region [⟨some 4,(.move (.con (.bool false))),none⟩])
 (.seq (.seq (.region [⟨some 9,(.move (.tmp 0)),none⟩,
 ⟨some 10,(.nilCheck (.tmp 9)),none⟩,
 ⟨some 11,(.fieldAddr 0 (.tmp 10)),none⟩,
 ⟨some 12,(.load1 (.tmp 11)),none⟩,
 ⟨some 13,(.bin .eql .prim (.tmp 12) (.con (.int .i64 0))),none⟩])
 (.cond (.tmp 13)
 (.seq (.region [⟨some 15,(.move (.tmp 1)),none⟩,
 ⟨some 16,(.assert 76 (.int .i64 0) (.tmp 15)),none⟩,
 ⟨some 14,(.move (.tmp 16)),none⟩,
 ⟨some 17,(.extract (.tmp 14) 0),none⟩,
 ⟨some 18,(.extract (.tmp 14) 1),none⟩,
 ⟨some 5,(.move (.tmp 17)),none⟩,
 ⟨some 6,(.move (.tmp 18)),none⟩])
 (.seq (.region [⟨some 19,(.move (.tmp 0)),none⟩,
 ⟨some 20,(.move (.tmp 5)),none⟩,
 ⟨some 21,(.nilCheck (.tmp 19)),none⟩,
 ⟨some 22,(.fieldAddr 0 (.tmp 21)),none⟩,
 ⟨none,(.store 1 (.tmp 22) (.tmp 20)),none⟩])
 (.seq (.region [⟨some 23,(.move (.tmp 6)),none⟩,
 ⟨some 24,(.move (.tmp 23)),none⟩,
 ⟨some 25,(.move (.tmp 0)),some (24,true)⟩,
 ⟨some 26,(.nilCheck (.tmp 25)),some (24,true)⟩,
 ⟨some 27,(.loadN 2 (.tmp 26)),some (24,true)⟩,
 ⟨some 28,(.call 16 [(.tmp 27)]),some (24,true)⟩,
 ⟨some 29,(.pick (.tmp 24) (.tmp 28) (.con (.bool false))),none⟩,
 ⟨some 4,(.move (.tmp 29)),none⟩])
 .ret)))
 .skip))
 (.seq (.region [⟨some 31,(.move (.tmp 1)),none⟩,
 ⟨some 32,(.assert 31 (.agg [(.int .i64 0),(.int .i64 0),(.int .i64 0),(.int .i64 0)]) (.tmp 31)),none⟩,
 ⟨some 30,(.move (.tmp 32)),none⟩,
 ⟨some 33,(.extract (.tmp 30) 0),none⟩,
 ⟨some 34,(.extract (.tmp 30) 1),none⟩,
 ⟨some 7,(.alloc [(.int .i64 0),(.int .i64 0),(.int .i64 0),(.int .i64 0)]),none⟩,
 ⟨none,(.store 4 (.tmp 7) (.tmp 33)),none⟩,
 ⟨some 8,(.move (.tmp 34)),none⟩])
 (.seq (.seq (.dregion [[],[0],[0,1],[1,0,2],[2,0,1,3],[3,1,0,2,4],[4,2,0,1,3,5],[5,3,1,0,2,4,6],[6,4,2,0,1,3,5,7],[7,5,3,4,6,8,1,0,2],[2,0,1,8,6,4,3,5,7,9],[9,7,5,3,4,6,8,1,0,2,10],[10,2,0,1,8,6,4,3,5,7,9,11],[11,9,7,5,3,4,6,8,1,0,2,10,12],[12,10,2,0,1,8,6,4,3,5,7,9,11,13],[13,11,9,7,5,3,4,6,8,1,0,2,10,12,14],[9,7,5,3,4,6,8,1,0,2,10],[16,14,12,10,2,0,1,8,6,4,3,5,7,9,11,13,15],[15,13,11,9,7,5,3,4,6,8,1,0,2,10,12,14,16,17],[17,16,14,12,11,13,15,18,9,7,5,3,4,6,8,1,0,2,10]] [.op 0 ⟨some 35,(.move (.tmp 8)),none⟩,
 .op 1 ⟨some 36,(.un .not (.tmp 35)),none⟩,
 .op 2 ⟨some 37,(.move (.tmp 36)),none⟩,
 .op 3 ⟨some 38,(.move (.tmp 0)),some (37,false)⟩,
 .op 4 ⟨some 39,(.nilCheck (.tmp 38)),some (37,false)⟩,
 .op 5 ⟨some 40,(.fieldAddr 1 (.tmp 39)),some (37,false)⟩,
 .op 6 ⟨some 41,(.load1 (.tmp 40)),some (37,false)⟩,
 .op 7 ⟨some 42,(.lenS (.tmp 41)),some (37,false)⟩,
 .op 8 ⟨some 43,(.bin .geq .prim (.tmp 42) (.con (.int .i64 400))),some (37,false)⟩,
 .op 9 ⟨some 44,(.pick (.tmp 37) (.con (.bool true)) (.tmp 43)),none⟩,
 .op 10 ⟨some 45,(.move (.tmp 44)),none⟩,
 .op 11 ⟨some 46,(.move (.tmp 0)),some (45,false)⟩,
 .op 12 ⟨some 47,(.nilCheck (.tmp 46)),some (45,false)⟩,
 .op 13 ⟨some 48,(.fieldAddr 0 (.tmp 47)),some (45,false)⟩,
 .op 14 ⟨some 49,(.load1 (.tmp 48)),some (45,false)⟩,
 .op 15 ⟨some 50,(.build [(.int .i64 0)] [(0,1,(.tmp 49))]),some (45,false)⟩,
 .op 16 ⟨some 51,(.loadN 4 (.tmp 7)),some (45,false)⟩,
 .op 17 ⟨some 52,(.call 28 [(.tmp 50),(.tmp 51)]),some (45,false)⟩,
 .op 18 ⟨some 53,(.un .not (.tmp 52)),some (45,false)⟩,
 .op 19 ⟨some 54,(.pick (.tmp 45) (.con (.bool true)) (.tmp 53)),none⟩])
 (.cond (.tmp 54)
 (.seq (.region [⟨some 4,(.move (.con (.bool false))),none⟩])
 .ret)
 .skip))
 (.seq (.dregion [[],[],[1],[1,2],[2,1,3],[],[5],[5,6,3,1,2,4],[7,6,5,4,3,2,1,0],[0,1,2,3,4,5,6,7,8],[8,7,6,5,4,3,2,1,0,9]] [.op 0 ⟨some 55,(.move (.tmp 0)),none⟩,
 .op 1 ⟨some 56,(.move (.tmp 0)),none⟩,
 .op 2 ⟨some 57,(.nilCheck (.tmp 56)),none⟩,
 .op 3 ⟨some 58,(.fieldAddr 1 (.tmp 57)),none⟩,
 .op 4 ⟨some 59,(.load1 (.tmp 58)),none⟩,
 .op 5 ⟨some 60,(.loadN 4 (.tmp 7)),none⟩,
 .op 6 ⟨some 61,(.buildSlice [(.int .i64 0),(.int .i64 0),(.int .i64 0),(.int .i64 0)] 1 [(0,4,(.tmp 60))]),none⟩,
 .op 7 ⟨some 62,(.append 4 32 (.tmp 59) (.tmp 61)),none⟩,
 .op 8 ⟨some 63,(.nilCheck (.tmp 55)),none⟩,
 .op 9 ⟨some 64,(.fieldAddr 1 (.tmp 63)),none⟩,
 .op 10 ⟨none,(.store 1 (.tmp 64) (.tmp 62)),none⟩])
 (.seq (.region [⟨some 4,(.move (.con (.bool true))),none⟩])
 .ret))))))⟩
theorem F32_ok : cfn tab F32.body Tryd.f32 = some F32 := by kernel_rfl

/- milestone/net.line -/
def F33 : AFn := ⟨57,[.tmp 2],
 (.seq (.region [⟨some 2,(.move (.con .nilIface)),none⟩])
 (.seq (.region [⟨some 4,(.move (.tmp 0)),none⟩,
 ⟨some 5,(.call 31 [(.tmp 4),(.con (.str ⟨#[32]⟩))]),none⟩,
 ⟨some 3,(.move (.tmp 5)),none⟩])
 (.seq (.block 0 (.seq (.region [⟨some 7,(.move (.tmp 3)),none⟩,
 ⟨some 8,(.lenS (.tmp 7)),none⟩,
 ⟨some 9,(.bin .eql .prim (.tmp 8) (.con (.int .i64 2))),none⟩,
 ⟨some 10,(.move (.tmp 9)),none⟩,
 ⟨some 11,(.move (.tmp 3)),some (10,true)⟩,
 ⟨some 12,(.indexAddrS 1 (.tmp 11) (.con (.int .i64 0))),some (10,true)⟩,
 ⟨some 13,(.load1 (.tmp 12)),some (10,true)⟩,
 ⟨some 14,(.bin .eql .prim (.tmp 13) (.con (.str ⟨#[110,101,116]⟩))),some (10,true)⟩,
 ⟨some 15,(.pick (.tmp 10) (.tmp 14) (.con (.bool false))),none⟩,
 ⟨some 6,(.move (.tmp 15)),none⟩])
 (.cond (.tmp 6)
 (.seq (.region [⟨some 16,(.move (.tmp 3)),none⟩,
 ⟨some 17,(.indexAddrS 1 (.tmp 16) (.con (.int .i64 1))),none⟩,
 ⟨some 18,(.load1 (.tmp 17)),none⟩,
 ⟨some 19,(.call 41 [(.tmp 18)]),none⟩,
 ⟨some 20,(.mkIface 76 (.tmp 19)),none⟩,
 ⟨some 2,(.move (.tmp 20)),none⟩])
 .ret)
 (.seq (.region [⟨some 22,(.move (.tmp 3)),none⟩,
 ⟨some 23,(.lenS (.tmp 22)),none⟩,
 ⟨some 24,(.bin .eql .prim (.tmp 23) (.con (.int .i64 5))),none⟩,
 ⟨some 25,(.move (.tmp 24)),none⟩,
 ⟨some 26,(.move (.tmp 3)),some (25,true)⟩,
 ⟨some 27,(.indexAddrS 1 (.tmp 26) (.con (.int .i64 0))),some (25,true)⟩,
 ⟨some 28,(.load1 (.tmp 27)),some (25,true)⟩,
 ⟨some 29,(.bin .eql .prim (.tmp 28) (.con (.str ⟨#[101,100,103,101]⟩))),some (25,true)⟩,
 ⟨some 30,(.pick (.tmp 25) (.tmp 29) (.con (.bool false))),none⟩,
 ⟨some 31,(.move (.tmp 30)),none⟩,
 ⟨some 32,(.move (.tmp 3)),some (31,true)⟩,
 ⟨some 33,(.indexAddrS 1 (.tmp 32) (.con (.int .i64 3))),some (31,true)⟩,
 ⟨some 34,(.load1 (.tmp 33)),some (31,true)⟩,
 ⟨some 35,(.lenStr (.tmp 34)),some (31,true)⟩,
 ⟨some 36,(.bin .eql .prim (.tmp 35) (.con (.int .i64 1))),some (31,true)⟩,
 ⟨some 37,(.pick (.tmp 31) (.tmp 36) (.con (.bool false))),none⟩,
 ⟨some 21,(.move (.tmp 37)),none⟩])
 (.cond (.tmp 21)
 (.seq (.dregion [[],[0],[0,1],[1,0,2],[],[4],[4,5],[2,0,1,3,5,4,6],[],[8],[8,9],[9,8,10],[6,4,5,3,1,0,2,7,10,8,9,11],[],[13],[13,14],[11,9,8,10,7,2,0,1,3,5,4,6,12,14,13,15],[15,13,14,16,11,9,8,10,12,6,4,5,7,2,0,1,3],[3,1,0,2,7,5,4,6,12,10,8,9,11,16,14,13,15,17],[17,15,13,14,16,11,9,8,10,12,6,4,5,7,2,0,1,3,18]] [.op 0 ⟨some 38,(.move (.tmp 3)),none⟩,
 .op 1 ⟨some 39,(.indexAddrS 1 (.tmp 38) (.con (.int .i64 1))),none⟩,
 .op 2 ⟨some 40,(.load1 (.tmp 39)),none⟩,
 .op 4 ⟨some 42,(.move (.tmp 3)),none⟩,
 .op 5 ⟨some 43,(.indexAddrS 1 (.tmp 42) (.con (.int .i64 2))),none⟩,
 .op 6 ⟨some 44,(.load1 (.tmp 43)),none⟩,
 .op 8 ⟨some 46,(.move (.tmp 3)),none⟩,
 .op 9 ⟨some 47,(.indexAddrS 1 (.tmp 46) (.con (.int .i64 3))),none⟩,
 .op 10 ⟨some 48,(.load1 (.tmp 47)),none⟩,
 .op 11 ⟨some 49,(.indexStr (.tmp 48) (.con (.int .i64 0))),none⟩,
 .op 13 ⟨some 51,(.move (.tmp 3)),none⟩,
 .op 14 ⟨some 52,(.indexAddrS 1 (.tmp 51) (.con (.int .i64 4))),none⟩,
 .op 15 ⟨some 53,(.load1 (.tmp 52)),none⟩,
 .op 3 ⟨some 41,(.call 41 [(.tmp 40)]),none⟩,
 .re 6 ⟨some 44,(.load1 (.tmp 43)),none⟩,
 .re 10 ⟨some 48,(.load1 (.tmp 47)),none⟩,
 .re 15 ⟨some 53,(.load1 (.tmp 52)),none⟩,
 .op 7 ⟨some 45,(.call 41 [(.tmp 44)]),none⟩,
 .re 10 ⟨some 48,(.load1 (.tmp 47)),none⟩,
 .re 15 ⟨some 53,(.load1 (.tmp 52)),none⟩,
 .op 12 ⟨some 50,(.call 42 [(.con (.str ⟨#[119,98,99,102,116]⟩)),(.tmp 49)]),none⟩,
 .re 15 ⟨some 53,(.load1 (.tmp 52)),none⟩,
 .op 16 ⟨some 54,(.call 41 [(.tmp 53)]),none⟩,
 .op 17 ⟨some 55,(.build [(.int .i64 0),(.int .i64 0),(.int .i64 0),(.int .i64 0)] [(0,1,(.tmp 41)),(1,1,(.tmp 45)),(2,1,(.tmp 50)),(3,1,(.tmp 54))]),none⟩,
 .op 18 ⟨some 56,(.mkIface 31 (.tmp 55)),none⟩,
 .op 19 ⟨some 2,(.move (.tmp 56)),none⟩])
 .ret)
 .skip)))))
 (.seq (.region [⟨some 2,(.move (.con .nilIface)),none⟩])
 .ret))))⟩
theorem F33_ok : cfn tab F33.body Tryd.f33 = some F33 := by kernel_rfl

/- (milestone/net.checker).vertex -/
def F35 : AFn := ⟨13,[.tmp 4],
 (.seq (.region [⟨some 2,(.box 1 (.tmp 0)),none⟩,
 ⟨some 4,(.move (.con (.bool false))),none⟩])
 (.seq (.region [⟨some 5,(.move (.tmp 1)),none⟩,
 ⟨some 6,(.bin .geq .prim (.tmp 5) (.con (.int .i64 0))),none⟩,
 ⟨some 7,(.move (.tmp 6)),none⟩,
 ⟨some 8,(.move (.tmp 1)),some (7,true)⟩,
 ⟨some 9,(.fieldAddr 0 (.tmp 2)),some (7,true)⟩,
 ⟨some 10,(.load1 (.tmp 9)),some (7,true)⟩,
 ⟨some 11,(.bin .lss .prim (.tmp 8) (.tmp 10)),some (7,true)⟩,
 ⟨some 12,(.pick (.tmp 7) (.tmp 11) (.con (.bool false))),none⟩,
 ⟨some 4,(.move (.tmp 12)),none⟩])
 .ret))⟩
theorem F35_ok : cfn tab F35.body Tryd.f35 = some F35 := by kernel_rfl

/- milestone/net.number -/
def F41 : AFn := ⟨23,[.tmp 2],
 (.seq (.region [⟨some 2,(.move (.con (.int .i64 0))),none⟩])
 (.seq (.region [⟨some 6,(.move (.tmp 0)),none⟩,
 ⟨some 7,(.call 52 [(.tmp 6)]),none⟩,
 ⟨some 5,(.move (.tmp 7)),none⟩,
 ⟨some 8,(.extract (.tmp 5) 0),none⟩,
 ⟨some 9,(.extract (.tmp 5) 1),none⟩,
 ⟨some 3,(.move (.tmp 8)),none⟩,
 ⟨some 4,(.move (.tmp 9)),none⟩])
 (.seq (.seq (.region [⟨some 10,(.move (.tmp 4)),none⟩,
 ⟨some 11,(.bin .neq .nilI (.tmp 10) (.con .nilIface)),none⟩,
 ⟨some 12,(.move (.tmp 11)),none⟩,
 ⟨some 13,(.move (.tmp 3)),some (12,false)⟩,
 ⟨some 14,(.bin .lss .prim (.tmp 13) (.con (.int .i64 0))),some (12,false)⟩,
 ⟨some 15,(.pick (.tmp 12) (.con (.bool true)) (.tmp 14)),none⟩,
 ⟨some 16,(.move (.tmp 15)),none⟩,
 ⟨some 17,(.move (.tmp 3)),some (16,false)⟩,
 ⟨some 18,(.call 37 [(.tmp 17)]),some (16,false)⟩,
 ⟨some 19,(.move (.tmp 0)),some (16,false)⟩,
 ⟨some 20,(.bin .neq .prim (.tmp 18) (.tmp 19)),some (16,false)⟩,
 ⟨some 21,(.pick (.tmp 16) (.con (.bool true)) (.tmp 20)),none⟩])
 (.cond (.tmp 21)
 (.seq (.region [⟨some 2,(.move (.con (.int .i64 (-1)))),none⟩])
 .ret)
 .skip))
 (.seq (.region [⟨some 22,(.move (.tmp 3)),none⟩,
 ⟨some 2,(.move (.tmp 22)),none⟩])
 .ret))))⟩
theorem F41_ok : cfn tab F41.body Tryd.f41 = some F41 := by kernel_rfl

end Go.Proofs.YtknhlpmmalcchaaDoor
