/- The functions of the program in the small language, each checked against the program. -/
import Derived.Test.YthiamojjhdcegaaGreatFwD
import Derived.Test.YthiamojjhdcegaaGreatProg
import Derived.ProofKit
set_option linter.unusedVariables false
set_option linter.unusedSimpArgs false
set_option linter.unusedSectionVars false
set_option maxRecDepth 100000
namespace Go.Proofs.YthiamojjhdcegaaGreat.Fw
open Go.Proofs
theorem Af : Tryz.prog.follows .mixedOrders = true := by kernel_rfl
def ir5 : C := (jS [iJ .mv [.c zF] 2] (.seq (jS [iM 5 0, iU .len 5 6, jK B4 6 30 7] (jI 7 (jS [iJ .mv [.c zF] 2] .ret))) (.seq (jS [iM 8 0,
 iU .len 8 9, jC 0 10] (.block 0 (.loop (jS [iD B3 10 9 11] (.seq (.ite (.t 11) .skip (.exit 0)) (.seq (.block 1 (jS [iD (.iaS 21) 8 10 12, iU (.ld 21 true) 12 13,
 jE 4, jW 21 4 13] (jS [jF 15 4 14, iU L1 14 15, iU .lenS 15 16, jK B4 16 30 17,
 iM 18 17, jN 19 4 19 18, jB L1 19 20 18, jB .lenS 20 21 18, iG B4 [.t 21, cI 250] 22 18 false, jP 18 22 23, iM 24 23, jN 16 4 25 24,
 jB L1 25 26 24, jB .len 26 27 24, iG B4 [.t 27, cI 10] 28 24 false, jP 24 28 29, iM 30 29, jN 17 4 31 30, jB L1 31 32 30, jB .len 32 33 30,
 iG B4 [.t 33, cI 10] 34 30 false, jP 30 34 35] (jI 35 (jS [iJ .mv [.c zF] 2] .ret))))) (.ops [jK B2 10 1 36, iM 10 36])))))))
 (jS [iJ .mv [.c zT] 2] .ret))))
theorem fn5 : Be Tryz.prog 5 = some (37, [.t 2], ir5) := by kernel_rfl
def ir6 : C := (jS [iJ (.new (.agg [zV, zN, zN, zW, zX])) [] 2] (jS [iM 10 0, iU (.call 13) 10 11, iM 12 0, iU (.call 14) 12 13,
 iJ (.bld [8, 1, 1, 8, 8]) [.t 11, .c zN, .t 13, .c zW, .c zX] 14, iJ (.new (.agg [zV, zN, zN, zW, zX])) [] 3, jW 26 3 14]
 (jS [iJ (.bldV 8 1) [.c zU, .c zU, .c zU, .c zU, .c zU, .c zU, .c zU, .c zU] 15, iJ (.new zV) [] 4, jW 8 4 15] (.seq (jS [jC 0 5]
 (.block 0 (.loop (.seq (jS [iM 16 5, iM 17 0, iU .len 17 18, iD B3 16 18 19] (.ite (.t 19) .skip (.exit 0))) (.seq (.block 1 (jS [iM 22 0, iM 23 5, iD (.iaS 21) 22 23 24,
 iU (.ld 21 true) 24 25, jE 6, jW 21 6 25] (.seq (jS [jF 10 6 26, iU L1 26 27,
 jK B1 27 1 28, iM 29 28, jN 10 6 30 29, jB L1 30 31 29, iG B1 [.t 31, cI 2] 32 29 false, jP 29 32 33] (jI 33 (jS [iM 34 0,
 iU (.ld 21 true) 6 35, iD (.call 15) 34 35 36, iJ (.new (.agg [zI, zU, zF, zI, zU, zS, zV, zN])) [] 7, jW 15 7 36] (jS [jF 8 3 37, iU L1 37 38, iU .len 38 39, iM 8 39]
 (.seq (.block 2 (.loop (.seq (.seq (.any [52] [(iM 40 8, 0, [52]), (jK B4 40 0 41, 0, [52]), (iM 42 41, 0, [52]), (jL 0 7 43 42, 0, [52]), (jA L2 43 44 42, 1, [52]),
 (jL 8 3 45 42, 0, [52]), (jA L1 45 46 42, 1, [52]), (jA .mv 8 47 42, 0, [52]), (iG B5 [.t 47, cI 1] 48 42 true, 0, [52]), (iG (.iaS 15) [.t 46, .t 48] 49 42 true, 1, [52]),
 (jL 0 49 50 42, 0, [52]), (jA L2 50 51 42, 1, [52]), (iG (.call 16) [.t 44, .t 51] 52 42 true, 3, [52]), (jQ 42 52 53, 0, [])]) (.ite (.t 53) .skip (.exit 2)))
 (.block 3 (.ops [iM 54 8, jK B5 54 1 55, iM 8 55]))))) (.seq (.anyF [57, 62] [(iU (.ld 15 true) 7 56, 1, [57, 62]), (iU (.bsl 15) 56 57, 1, [57, 62]), (jF 8 3 58, 0, [57, 62]),
 (iU L1 58 59, 1, [57, 62]), (iM 60 8, 0, [57, 62]), (iD (.slc 15 true false false) 59 60 61, 1, [57, 62]), (iD (.app 15 112) 57 61 62, 2, [62]), (iM 9 62, 0, [])]) (.ops [iJ (.bsl 15) [] 63,
 jF 8 3 64, iU L1 64 65, iM 66 8, iD (.slc 15 false true false) 65 66 67, iD (.app 15 112) 63 67 68, iM 69 9, iD (.app 15 112) 68 69 70, jF 8 3 71, jW 1 71 70])))))))
 (.seq (.seq (.any [83] [(jF 10 6 72, 0, [83]), (iU L1 72 73, 1, [83]), (jK B1 73 8 74, 0, [83]), (iM 75 74, 0, [83]), (jL 0 6 76 75, 0, [83]),
 (jL 1 76 77 75, 0, [83]), (jA L1 77 78 75, 1, [83]), (jA L8 4 79 75, 1, [83]), (jL 0 6 80 75, 0, [83]), (jL 0 80 81 75, 0, [83]),
 (jA L1 81 82 75, 1, [83]), (iG (.call 17) [.t 79, .t 82] 83 75 true, 1, [83]), (iG B4 [.t 78, .t 83] 84 75 true, 0, []), (jQ 75 84 85, 0, [83])])
 (jI 85 (jS [iU L8 4 86, jF 0 6 87, iU L2 87 88, iD (.call 18) 86 88 89, jW 8 4 89] (.ops [jF 0 6 90, jF 0 90 91, iU L1 91 92, jK B5 92 1 93,
 jF 20 6 94, iU L1 94 95, jF 10 3 96, iD (.iaA 8 1) 96 93 97, jW 1 97 95])))) (jS [jF 10 6 98, iU L1 98 99, jK B1 99 9 100]
 (jI 100 (.ops [jF 0 6 101, jF 0 101 102, iU L1 102 103, jK B5 103 1 104, jF 18 3 105, iD (.iaA 8 1) 105 104 106, iO S1 [.t 106, .c zT]]))))))) (.ops [iM 20 5,
 jK B2 20 1 21, iM 5 21])))))) (jS [iU (.ld 26 true) 3 107, jW 26 2 107] .ret)))))
theorem fn6 : Be Tryz.prog 6 = some (108, [.c 2 26 true], ir6) := by kernel_rfl
def ir7 : C := (jS [iJ .mv [.c zN] 2] (jS [iJ .mv [.c zN] 3] (.seq (jS [jC 0 4] (.block 0 (.loop (.seq (jS [iM 5 4, iM 6 0, iU .len 6 7, iD B3 5 7 8]
 (.ite (.t 8) .skip (.exit 0))) (.seq (.block 1 (.seq (.any [12, 17] [(iM 11 3, 0, [12, 17]), (iU (.call 6) 11 12, 1, [12, 17]), (iM 13 0, 0, [12, 17]), (iM 14 4, 0, [12, 17]),
 (iD (.iaS 21) 13 14 15, 1, [12, 17]), (iU (.ld 21 true) 15 16, 1, [12, 17]), (iD (.call 19) 12 16 17, 3, [17]), (jK B1 17 0 18, 0, [12])]) (jI 18 (.ops [iM 19 3, iM 20 0, iM 21 4,
 iD (.iaS 21) 20 21 22, iU (.ld 21 true) 22 23, iU (.bsl 21) 23 24, iD (.app 21 184) 19 24 25, iM 3 25])))) (.ops [iM 9 4, jK B2 9 1 10, iM 4 10])))))) (jS [iM 26 3, iM 2 26]
 .ret))))
theorem fn7 : Be Tryz.prog 7 = some (27, [.t 2], ir7) := by kernel_rfl
def ir8 : C := (jS [iU .box 0 1, iJ (.new (.agg [zV, zN, zN, zW, zX])) [] 2] (jS [iU (.ld 26 true) 1 6, iJ (.new (.agg [zV, zN, zN, zW, zX])) [] 3, jW 26 3 6]
 (jS [jF 9 1 7, iU L1 7 8, iU (.call 20) 8 9, jF 9 3 10, jW 1 10 9] (jS [jF 8 3 11, iO S1 [.t 11, .c zN]] (.seq (jS [jF 8 1 12, iU L1 12 13,
 iU .len 13 14, jC 0 15] (.block 0 (.loop (jS [iD B3 15 14 16] (.seq (.ite (.t 16) .skip (.exit 0)) (.seq (.block 1 (jS [iD (.iaS 15) 13 15 17, iU (.ld 15 true) 17 18,
 iJ (.new (.agg [zI, zU, zF, zI, zU, zS, zV, zN])) [] 5, jW 15 5 18] (jS [jF 14 5 19, iU L1 19 20, iU (.call 21) 20 21, jF 14 5 22, jW 1 22 21]
 (.ops [jF 8 3 23, iU L1 23 24, iU (.ld 15 true) 5 25, iU (.bsl 15) 25 26, iD (.app 15 112) 24 26 27, jF 8 3 28, jW 1 28 27])))) (.ops [jK B2 15 1 29, iM 15 29])))))))
 (jS [iU (.ld 26 true) 3 30, jW 26 2 30] .ret))))))
theorem fn8 : Be Tryz.prog 8 = some (31, [.c 2 26 true], ir8) := by kernel_rfl
def ir9 : C := (jS [iU .box 0 2, iU .box 1 3, iJ (.new (.agg [zV, zN, zN, zW, zX])) [] 4, jC 0 5] (.seq (.block 0 (jS [iU (.ld 21 true) 3 9, iU (.call 22) 9 10, iU U1 10 11,
 iM 8 11] (.ite (.t 8) (jS [iJ (.bld [8, 1, 1, 8, 8]) [.c zV, .c zN, .c zN, .c zW, .c zX] 12, jW 26 4 12, jC 7 5] .ret) (jS [jF 0 2 14, iU L8 14 15,
 jF 0 3 16, iU L2 16 17, iD (.call 23) 15 17 18, iM 13 18] (.ite (.t 13) (jS [iJ (.bld [8, 1, 1, 8, 8]) [.c zV, .c zN, .c zN, .c zW, .c zX] 19, jW 26 4 19,
 jC 11 5] .ret) (jS [jF 2 3 21, iU L8 21 22, jF 0 2 23, iU L8 23 24, iD (.call 24) 22 24 25, iU U1 25 26, iM 20 26]
 (.ite (.t 20) (jS [iJ (.bld [8, 1, 1, 8, 8]) [.c zV, .c zN, .c zN, .c zW, .c zX] 27, jW 26 4 27, jC 10 5] .ret) (jS [jF 0 3 29, jF 0 29 30,
 iU L1 30 31, jK B5 31 1 32, jF 18 2 33, iD (.iaA 8 1) 33 32 34, iU L1 34 35, iM 28 35] (jI 28 (jS [iJ (.bld [8, 1, 1, 8, 8]) [.c zV, .c zN, .c zN, .c zW, .c zX] 36,
 jW 26 4 36, jC 28 5] .ret)))))))))) (jS [iU (.ld 26 true) 2 37, iU (.call 8) 37 38, iJ (.new (.agg [zV, zN, zN, zW, zX])) [] 6, jW 26 6 38]
 (jS [jF 0 2 39, iU L8 39 40, jF 0 3 41, iU L2 41 42, iD (.call 25) 40 42 43, jF 0 6 44, jW 8 44 43] (.seq (jS [iU (.ld 21 true) 3 45,
 iD (.call 26) 6 45 46, iM 7 46] (jS [iM 47 7, jK B6 47 0 48] (jI 48 (jS [iJ (.bld [8, 1, 1, 8, 8]) [.c zV, .c zN, .c zN, .c zW, .c zX] 49, iM 50 7,
 jW 26 4 49, iM 5 50] .ret)))) (jS [iU (.ld 26 true) 6 51, jW 26 4 51, jC 0 5] .ret))))))
theorem fn9 : Be Tryz.prog 9 = some (52, [.c 4 26 true, .t 5], ir9) := by kernel_rfl
def ir10 : C := (jS [iU .box 0 2, iU .box 1 3, iJ .mv [.c zF] 4] (.seq (jS [jF 0 2 8, iU L8 8 9, jF 0 3 10, iU L8 10 11,
 iD (.eqv true [.int .u32, .int .u32, .int .u32, .int .u32, .int .u32, .int .u32, .int .u32, .int .u32]) 9 11 12, iM 13 12, jN 10 2 14 13, jB L8 14 15 13, jN 10 3 16 13,
 jB L8 16 17 13, iG (.eqv true [.int .i64, .int .i64, .int .i64, .int .i64, .int .i64, .int .i64, .int .i64, .int .i64]) [.t 15, .t 17] 18 13 false, jP 13 18 19, iM 20 19,
 jN 18 2 21 20, jB L8 21 22 20, jN 18 3 23 20, jB L8 23 24 20, iG (.eqv true [.bool, .bool, .bool, .bool, .bool, .bool, .bool, .bool]) [.t 22, .t 24] 25 20 false,
 jP 20 25 26, iM 27 26, jN 9 2 28 27, jB L1 28 29 27, jN 9 3 30 27, jB L1 30 31 27, iG (.call 27) [.t 29, .t 31] 32 27 false,
 jB U1 32 33 27, jP 27 33 34, iM 35 34, jN 8 2 36 35, jB L1 36 37 35, jB .len 37 38 35, jN 8 3 39 35, jB L1 39 40 35,
 jB .len 40 41 35, iG B6 [.t 38, .t 41] 42 35 false, jP 35 42 43] (jI 43 (jS [iJ .mv [.c zF] 4] .ret))) (.seq (jS [jC 0 5]
 (.block 0 (.loop (.seq (jS [iM 44 5, jF 8 2 45, iU L1 45 46, iU .len 46 47, iD B3 44 47 48] (.ite (.t 48) .skip (.exit 0)))
 (.seq (.block 1 (.seq (.anyP [6, 7] [(jF 8 2 51, 0, [6, 7], [], 0), (iU L1 51 52, 1, [6, 7], [], 1), (iM 53 5, 0, [6, 7], [], 2), (iD (.iaS 15) 52 53 54, 1, [6, 7], [], 3),
 (iU (.ld 15 true) 54 55, 1, [6, 7], [], 4), (jF 8 3 56, 0, [6, 7], [], 5), (iU L1 56 57, 1, [6, 7], [], 6), (iM 58 5, 0, [6, 7], [], 7), (iD (.iaS 15) 57 58 59, 1, [6, 7], [], 8),
 (iU (.ld 15 true) 59 60, 1, [6, 7], [], 9), (iJ (.new (.agg [zI, zU, zF, zI, zU, zS, zV, zN])) [] 6, 1, [6, 7], [], 10), (iJ (.new (.agg [zI, zU, zF, zI, zU, zS, zV, zN])) [] 7, 1, [6, 7], [], 11),
 (jW 15 6 55, 2, [], [6, 8, 9], 12), (jW 15 7 60, 2, [], [], 13)]) (jS [jF 0 6 61, iU L2 61 62, jF 0 7 63, iU L2 63 64,
 iD (.eqv true [.int .i64, .int .u32]) 62 64 65, iM 66 65, jN 2 6 67 66, jB L1 67 68 66, jN 2 7 69 66, jB L1 69 70 66, iG (.binB .neq) [.t 68, .t 70] 71 66 false,
 jP 66 71 72, iM 73 72, jN 3 6 74 73, jB L2 74 75 73, jN 3 7 76 73, jB L2 76 77 73,
 iG (.eqv true [.int .i64, .int .u32]) [.t 75, .t 77] 78 73 false, jP 73 78 79, iM 80 79, jN 5 6 81 80, jB L1 81 82 80, jN 5 7 83 80,
 jB L1 83 84 80, iG B6 [.t 82, .t 84] 85 80 false, jP 80 85 86, iM 87 86, jN 6 6 88 87, jB L8 88 89 87, jN 6 7 90 87, jB L8 90 91 87,
 iG (.eqv true [.int .u32, .int .u32, .int .u32, .int .u32, .int .u32, .int .u32, .int .u32, .int .u32]) [.t 89, .t 91] 92 87 false, jP 87 92 93, iM 94 93,
 jN 14 6 95 94, jB L1 95 96 94, jN 14 7 97 94, jB L1 97 98 94, iG (.call 28) [.t 96, .t 98] 99 94 false, jB U1 99 100 94,
 jP 94 100 101] (jI 101 (jS [iJ .mv [.c zF] 4] .ret))))) (.ops [iM 49 5, jK B2 49 1 50, iM 5 50])))))) (jS [iJ .mv [.c zT] 4] .ret))))
theorem fn10 : Be Tryz.prog 10 = some (102, [.t 4], ir10) := by kernel_rfl
def ir13 : C := (jS [iJ (.new zV) [] 2] (jS [iJ (.bldV 8 1) [.c zU, .c zU, .c zU, .c zU, .c zU, .c zU, .c zU, .c zU] 5, iJ (.new zV) [] 3, jW 8 3 5]
 (.seq (jS [jC 0 4] (.block 0 (.loop (.seq (jS [iM 6 4, iM 7 0, iU .len 7 8, iD B3 6 8 9] (.ite (.t 9) .skip (.exit 0))) (.seq (.block 1 (.any [18] [(iU L8 3 12, 1, [18]),
 (iM 13 0, 0, [18]), (iM 14 4, 0, [18]), (iD (.iaS 21) 13 14 15, 1, [18]), (jF 0 15 16, 0, [18]), (iU L2 16 17, 1, [18]), (iD (.call 18) 12 17 18, 3, [18]), (jW 8 3 18, 2, [])]))
 (.ops [iM 10 4, jK B2 10 1 11, iM 4 11])))))) (jS [iU L8 3 19, jW 8 2 19] .ret))))
theorem fn13 : Be Tryz.prog 13 = some (20, [.c 2 8 true], ir13) := by kernel_rfl
def ir14 : C := (jS [iJ .mv [.c zN] 2] (jS [iJ .mv [.c zN] 3] (.seq (jS [jC 0 4] (.block 0 (.loop (.seq (jS [iM 9 4, iM 10 0, iU .len 10 11, iD B3 9 11 12]
 (.ite (.t 12) .skip (.exit 0))) (.seq (.block 1 (jS [iM 15 0, iM 16 4, iD (.iaS 21) 15 16 17, iU (.ld 21 true) 17 18,
 jE 5, jW 21 5 18] (.seq (jS [jF 10 5 19, iU L1 19 20, jK B6 20 1 21, iM 22 21,
 jL 10 5 23 22, jA L1 23 24 22, iG B6 [.t 24, cI 2] 25 22 true, jQ 22 25 26, iM 27 26, jL 10 5 28 27, jA L1 28 29 27,
 iG B6 [.t 29, cI 7] 30 27 true, jQ 27 30 31] (jI 31 (.exit 1))) (jS [jF 0 5 32, iU L2 32 33, jF 13 5 34, iU L2 34 35, jF 15 5 36,
 iU L1 36 37, jF 0 5 38, iU L2 38 39, iJ (.bld [2, 2, 1, 2, 8]) [.t 33, .t 35, .t 37, .t 39, .c zV] 40, iJ (.new (.agg [zI, zU, zI, zU, zS, zI, zU, zV])) [] 6, jW 15 6 40]
 (.seq (jS [jF 10 5 41, iU L1 41 42, jK B1 42 7 43] (jI 43 (.ops [jF 11 5 44, iU L2 44 45, jF 5 6 46, jW 2 46 45])))
 (.seq (jS [jC 0 7] (.block 2 (.loop (.seq (jS [iM 47 7, iM 48 0, iU .len 48 49, iD B3 47 49 50] (.ite (.t 50) .skip (.exit 2))) (.seq (.block 3 (jS [iM 53 0,
 iM 54 7, iD (.iaS 21) 53 54 55, jF 10 55 56, iU L1 56 57, jK B1 57 6 58, iM 59 58, jB .mv 0 60 59, jB .mv 7 61 59, iG (.iaS 21) [.t 60, .t 61] 62 59 false,
 jN 10 62 63 59, jB L1 63 64 59, iG B1 [.t 64, cI 7] 65 59 false, jP 59 65 66, iM 8 66] (.seq (.any [86] [(iM 67 8, 0, [86]), (iM 68 67, 0, [86]),
 (jA .mv 0 69 68, 0, [86]), (jA .mv 7 70 68, 0, [86]), (iG (.iaS 21) [.t 69, .t 70] 71 68 true, 1, [86]), (jL 11 71 72 68, 0, [86]), (jA L2 72 73 68, 1, [86]),
 (jL 5 6 74 68, 0, [86]), (jA L2 74 75 68, 1, [86]), (iG (.eqv false [.int .i64, .int .u32]) [.t 73, .t 75] 76 68 true, 0, [86]), (jQ 68 76 77, 0, [86]),
 (iM 78 77, 0, [86]), (jA .mv 0 79 78, 0, [86]), (jA .mv 7 80 78, 0, [86]), (iG (.iaS 21) [.t 79, .t 80] 81 78 true, 1, [86]), (jL 16 81 82 78, 0, [86]),
 (jA L1 82 83 78, 1, [86]), (jL 0 6 84 78, 0, [86]), (jA L2 84 85 78, 1, [86]), (iG (.call 34) [.t 83, .t 85] 86 78 true, 2, [86]), (jQ 78 86 87, 0, [])])
 (jI 87 (.any [95] [(jF 7 6 88, 0, [95]), (iU L8 88 89, 1, [95]), (iM 90 0, 0, [95]), (iM 91 7, 0, [95]), (iD (.iaS 21) 90 91 92, 1, [95]), (jF 0 92 93, 0, [95]),
 (iU L2 93 94, 1, [95]), (iD (.call 18) 89 94 95, 3, [95]), (jF 7 6 96, 0, []), (jW 8 96 95, 2, [])]))))) (.ops [iM 51 7, jK B2 51 1 52, iM 7 52]))))))
 (.ops [iM 97 3, iU (.ld 15 true) 6 98, iD (.call 35) 97 98 99, iM 3 99]))))))) (.ops [iM 13 4, jK B2 13 1 14, iM 4 14])))))) (jS [iM 100 3, iM 2 100] .ret))))
theorem fn14 : Be Tryz.prog 14 = some (101, [.t 2], ir14) := by kernel_rfl
def ir15 : C := (jS [iU .box 1 3, iJ (.new (.agg [zI, zU, zF, zI, zU, zS, zV, zN])) [] 4] (.seq (.any [19, 5] [(jF 0 3 7, 0, [19, 5]), (iU L2 7 8, 1, [19, 5]),
 (jF 10 3 9, 0, [19, 5]), (iU L1 9 10, 1, [19, 5]), (jK B1 10 2 11, 0, [19, 5]), (jF 0 3 12, 0, [19, 5]), (iU L2 12 13, 1, [19, 5]), (jF 15 3 14, 0, [19, 5]),
 (iU L1 14 15, 1, [19, 5]), (iM 16 0, 0, [19, 5]), (jF 0 3 17, 0, [19, 5]), (iU L2 17 18, 1, [19, 5]), (iD (.call 36) 16 18 19, 1, [19, 5]),
 (iJ (.bld [2, 1, 2, 1, 8, 1]) [.t 8, .t 11, .t 13, .t 15, .c zV, .t 19] 20, 0, [5]), (iJ (.new (.agg [zI, zU, zF, zI, zU, zS, zV, zN])) [] 5, 1, [19, 5]), (jW 15 5 20, 2, [])])
 (.seq (jS [jC 0 6] (.block 0 (.loop (.seq (jS [iM 21 6, iM 22 0, iU .len 22 23, iD B3 21 23 24] (.ite (.t 24) .skip (.exit 0)))
 (.seq (.block 1 (.seq (.seq (.any [] [(iM 27 0, 0, []), (iM 28 6, 0, []), (iD (.iaS 21) 27 28 29, 1, []), (jF 11 29 30, 0, []), (iU L2 30 31, 1, []), (jF 0 3 32, 0, []),
 (iU L2 32 33, 1, []), (iD (.eqv true [.int .i64, .int .u32]) 31 33 34, 0, [])]) (jI 34 (.exit 1))) (.seq (.seq (.any [49] [(iM 35 0, 0, [49]), (iM 36 6, 0, [49]),
 (iD (.iaS 21) 35 36 37, 1, [49]), (jF 10 37 38, 0, [49]), (iU L1 38 39, 1, [49]), (jK B1 39 7 40, 0, [49]), (iM 41 40, 0, [49]), (jL 3 5 42 41, 0, [49]),
 (jA L2 42 43 41, 1, [49]), (jA .mv 0 44 41, 0, [49]), (jA .mv 6 45 41, 0, [49]), (iG (.iaS 21) [.t 44, .t 45] 46 41 true, 1, [49]), (jL 0 46 47 41, 0, [49]),
 (jA L2 47 48 41, 1, [49]), (iG (.call 16) [.t 43, .t 48] 49 41 true, 3, [49]), (jQ 41 49 50, 0, [])]) (jI 50 (.anyP [] [(iM 51 0, 0, [], [], 0),
 (iM 52 6, 0, [], [], 1), (iD (.iaS 21) 51 52 53, 1, [], [], 2), (jF 0 53 54, 0, [], [], 3), (iU L2 54 55, 1, [], [], 4), (iM 56 0, 0, [], [], 5), (iM 57 6, 0, [], [], 6),
 (iD (.iaS 21) 56 57 58, 1, [], [], 7), (jF 15 58 59, 0, [], [], 8), (iU L1 59 60, 1, [], [], 9), (jF 3 5 61, 0, [], [], 10), (jW 2 61 55, 2, [], [7, 9], 11),
 (jF 5 5 62, 0, [], [], 12), (jW 1 62 60, 2, [], [], 13)]))) (jS [iM 63 0, iM 64 6, iD (.iaS 21) 63 64 65, jF 10 65 66, iU L1 66 67, jK B1 67 6 68]
 (jI 68 (.any [81, 82] [(jF 6 5 69, 0, [81, 82]), (iU L8 69 70, 1, [81, 82]), (iM 71 0, 0, [81, 82]), (iM 72 6, 0, [81, 82]), (iD (.iaS 21) 71 72 73, 1, [81, 82]),
 (jF 2 73 74, 0, [81, 82]), (iU L8 74 75, 1, [81, 82]), (iM 76 0, 0, [81, 82]), (iM 77 6, 0, [81, 82]), (iD (.iaS 21) 76 77 78, 1, [81, 82]), (jF 0 78 79, 0, [81, 82]),
 (iU L2 79 80, 1, [81, 82]), (iD (.call 18) 75 80 81, 1, [81, 82]), (iD (.call 37) 70 81 82, 3, [82]), (jF 6 5 83, 0, []), (jW 8 83 82, 2, [])])))))) (.ops [iM 25 6,
 jK B2 25 1 26, iM 6 26])))))) (jS [iU (.ld 15 true) 5 84, jW 15 4 84] .ret))))
theorem fn15 : Be Tryz.prog 15 = some (85, [.c 4 15 true], ir15) := by kernel_rfl
def ir16 : C := (jS [iU .box 0 2, iU .box 1 3, iJ .mv [.c zF] 4] (jS [jF 1 2 5, iU L1 5 6, jF 1 3 7, iU L1 7 8, iD B3 6 8 9, iM 10 9, jN 1 2 11 10,
 jB L1 11 12 10, jN 1 3 13 10, jB L1 13 14 10, iG B1 [.t 12, .t 14] 15 10 false, jB .mv 15 16 10, jL 0 2 17 16, jA L1 17 18 16, jL 0 3 19 16,
 jA L1 19 20 16, iG B3 [.t 18, .t 20] 21 16 true, iG .pick [.t 16, .t 21, .c zF] 22 10 false, jP 10 22 23, iM 4 23] .ret))
theorem fn16 : Be Tryz.prog 16 = some (24, [.t 4], ir16) := by kernel_rfl
def ir17 : C := (jS [iU .box 0 2, iJ .mv [.c zU] 4] (.seq (jS [jC 0 5] (.block 0 (.loop (.seq (jS [iM 6 5, jK B3 6 8 7] (.ite (.t 7) .skip (.exit 0)))
 (.seq (.block 1 (jS [iM 10 5, jK B2 10 1 11, iM 12 1, iD B1 11 12 13] (jI 13 (jS [iM 14 5, iD (.iaA 8 1) 2 14 15, iU L1 15 16, iM 4 16] .ret)))) (.ops [iM 8 5,
 jK B2 8 1 9, iM 5 9])))))) (jS [iJ .mv [.c zU] 4] .ret)))
theorem fn17 : Be Tryz.prog 17 = some (17, [.t 4], ir17) := by kernel_rfl
def ir18 : C := (jS [iU .box 0 2, iU .box 1 3, iJ (.new zV) [] 4] (.seq (.any [7, 8] [(iU L8 2 5, 1, [7, 8]), (iU L2 3 6, 1, [7, 8]), (iU (.call 38) 6 7, 1, [7, 8]),
 (iD (.call 37) 5 7 8, 3, [8]), (jW 8 4 8, 2, [])]) .ret))
theorem fn18 : Be Tryz.prog 18 = some (9, [.c 4 8 true], ir18) := by kernel_rfl
def ir19 : C := (jS [iU .box 0 2, iU .box 1 3, jC 0 4] (.seq (jS [iU (.ld 21 true) 3 10, iU (.call 39) 10 11, iU U1 11 12] (jI 12 (jS [jC 7 4] .ret))) (.seq (jS [jF 0 2 13, iU L8 13 14, jF 0 3 15, iU L2 15 16, iD (.call 40) 14 16 17] (jI 17 (jS [jC 11 4] .ret)))
 (.seq (jS [jF 2 3 18, iU L8 18 19, jF 0 2 20, iU L8 20 21, iD (.call 41) 19 21 22, iU U1 22 23] (jI 23 (jS [jC 10 4] .ret)))
 (.seq (jS [jF 0 3 24, jF 0 24 25, iU L1 25 26, jK B5 26 1 27, jF 18 2 28, iD (.iaA 8 1) 28 27 29, iU L1 29 30] (jI 30 (jS [jC 28 4] .ret))) (.seq (jS [jF 10 3 31, iU L1 31 32, jK B1 32 8 33, iM 34 33, jN 10 3 35 34, jB L1 35 36 34, iG B1 [.t 36, cI 9] 37 34 false,
 jP 34 37 38] (jI 38 (jS [jC 0 4] .ret))) (.seq (jS [jF 10 3 39, iU L1 39 40, jK B1 40 1 41, iM 42 41,
 jN 10 3 43 42, jB L1 43 44 42, iG B1 [.t 44, cI 2] 45 42 false, jP 42 45 46] (jI 46 (jS [iU (.ld 26 true) 2 47, jF 13 3 48, iU L2 48 49,
 iD (.call 42) 47 49 50, iM 4 50] .ret))) (jS [iU (.ld 26 true) 2 52, jF 11 3 53, iU L2 53 54, iD (.call 43) 52 54 55, iM 51 55, iU (.ext 0) 51 56, iU (.ext 1) 51 57,
 iJ (.new (.agg [zI, zU, zF, zI, zU, zS, zV, zN])) [] 5, jW 15 5 56, iM 6 57] (.seq (jS [iM 58 6, iU U1 58 59] (jI 59 (jS [jC 2 4] .ret)))
 (.seq (jS [jF 10 3 60, iU L1 60 61, jK B1 61 7 62] (jI 62 (jS [iU (.ld 26 true) 2 63, jF 13 3 64, iU L2 64 65, iD (.call 42) 63 65 66, iM 4 66] .ret))) (.seq (jS [jF 10 3 67, iU L1 67 68, jK B1 68 6 69] (jI 69 (jS [jC 0 4] .ret))) (.seq (jS [jF 2 5 70, iU L1 70 71]
 (jI 71 (jS [jC 23 4] .ret))) (.seq (jS [jC 0 7] (.block 0 (.loop (.seq (jS [iM 72 7, jF 17 3 73, iU L1 73 74, iU .len 74 75,
 iD B3 72 75 76] (.ite (.t 76) .skip (.exit 0))) (.seq (.block 1 (.seq (.any [87] [(jF 14 5 80, 0, [87]), (iU L1 80 81, 1, [87]), (jF 17 3 82, 0, [87]), (iU L1 82 83, 1, [87]),
 (iM 84 7, 0, [87]), (iD (.iaS 2) 83 84 85, 1, [87]), (iU L2 85 86, 1, [87]), (iD (.call 44) 81 86 87, 3, [87]), (iM 79 87, 0, []), (iU (.ext 0) 79 88, 0, [87]), (iU (.ext 1) 79 89, 0, [87]),
 (iM 8 88, 0, []), (iM 9 89, 0, [])]) (jS [iM 90 9, jK B6 90 0 91] (jI 91 (jS [jC 2 4] .ret))))) (.ops [iM 77 7, jK B2 77 1 78, iM 7 78]))))))
 (jS [jC 0 4] .ret))))))))))))))
theorem fn19 : Be Tryz.prog 19 = some (92, [.t 4], ir19) := by kernel_rfl
def ir20 : C := (jS [iJ .mv [.c zN] 2] (.seq (jS [iM 3 0, iU (.eqn false) 3 4] (jI 4 (jS [iJ .mv [.c zN] 2] .ret))) (jS [iJ (.bsl 15) [] 5, iM 6 0,
 iD (.app 15 96) 5 6 7, iM 2 7] .ret)))
theorem fn20 : Be Tryz.prog 20 = some (8, [.t 2], ir20) := by kernel_rfl
def ir21 : C := (jS [iJ .mv [.c zN] 2] (.seq (jS [iM 3 0, iU (.eqn false) 3 4] (jI 4 (jS [iJ .mv [.c zN] 2] .ret))) (jS [iJ (.bsl 11) [] 5, iM 6 0,
 iD (.app 11 64) 5 6 7, iM 2 7] .ret)))
theorem fn21 : Be Tryz.prog 21 = some (8, [.t 2], ir21) := by kernel_rfl
def ir22 : C := (jS [iU .box 0 1, iJ .mv [.c zF] 2] (.seq (.seq (.any [] [(jF 0 1 7, 0, []), (jF 0 7 8, 0, []), (iU L1 8 9, 1, []), (jK B3 9 1 10, 0, []),
 (iM 11 10, 0, []), (jN 0 1 12 11, 0, []), (jN 0 12 13 11, 0, []), (jB L1 13 14 11, 1, []), (iG B4 [.t 14, cI 8] 15 11 false, 0, []),
 (jP 11 15 16, 0, []), (iM 17 16, 0, []), (jN 0 1 18 17, 0, []), (jN 1 18 19 17, 0, []), (jB L1 19 20 17, 1, []),
 (iG B3 [.t 20, .c (.pv (.i .u32 1))] 21 17 false, 0, []), (jP 17 21 22, 0, []), (iM 23 22, 0, []), (jN 0 1 24 23, 0, []), (jN 1 24 25 23, 0, []),
 (jB L1 25 26 23, 1, []), (iG B4 [.t 26, .c (.pv (.i .u32 1048576))] 27 23 false, 0, []), (jP 23 27 28, 0, []), (iM 29 28, 0, []), (jN 0 1 30 29, 0, []),
 (jN 0 30 31 29, 0, []), (jB L1 31 32 29, 1, []), (iG B5 [.t 32, cI 1] 33 29 false, 0, []), (jN 2 1 34 29, 0, []), (iG (.iaA 8 1) [.t 34, .t 33] 35 29 false, 0, []),
 (jB L1 35 36 29, 1, []), (jN 0 1 37 29, 0, []), (jN 1 37 38 29, 0, []), (jB L1 38 39 29, 1, []), (iG B5 [.t 39, .c (.pv (.i .u32 1))] 40 29 false, 0, []),
 (iG B6 [.t 36, .t 40] 41 29 false, 0, []), (jP 29 41 42, 0, []), (iM 43 42, 0, []), (jN 10 1 44 43, 0, []), (jB L1 44 45 43, 1, []),
 (iG B3 [.t 45, cI 1] 46 43 false, 0, []), (jP 43 46 47, 0, []), (iM 48 47, 0, []), (jN 10 1 49 48, 0, []), (jB L1 49 50 48, 1, []),
 (iG B4 [.t 50, cI 9] 51 48 false, 0, []), (jP 48 51 52, 0, [])]) (jI 52 (jS [iJ .mv [.c zF] 2] .ret))) (.seq (jS [jF 2 1 53, iU L8 53 54,
 jC 0 55] (.block 0 (.loop (jS [jK B3 55 8 56] (.seq (.ite (.t 56) .skip (.exit 0)) (.seq (.block 1 (jS [iD (.ixA 8 1 false) 54 55 57, iM 4 57]
 (jS [iM 58 4, iJ B4 [.t 58, .c (.pv (.i .u32 1048576))] 59] (jI 59 (jS [iJ .mv [.c zF] 2] .ret))))) (.ops [jK B2 55 1 60, iM 55 60])))))))
 (jS [iU (.ld 21 true) 1 61, iU (.call 45) 61 62, jE 5, jW 21 5 62]
 (.seq (jS [jF 11 5 63, iU L2 63 64, iJ (.bld [1, 1]) [cI 0, .c zU] 65, iD (.eqv true [.int .i64, .int .u32]) 64 65 66, iM 67 66, jN 13 5 68 67, jB L2 68 69 67,
 iG (.bld [1, 1]) [cI 0, .c zU] 70 67 false, iG (.eqv true [.int .i64, .int .u32]) [.t 69, .t 70] 71 67 false, jP 67 71 72, iM 73 72, jN 15 5 74 73,
 jB L1 74 75 73, iG B6 [.t 75, .c zS] 76 73 false, jP 73 76 77, iM 78 77, jN 16 5 79 78, jB L1 79 80 78, jB .len 80 81 78,
 iG B4 [.t 81, cI 0] 82 78 false, jP 78 82 83, iM 84 83, jN 17 5 85 84, jB L1 85 86 84, jB .len 86 87 84, iG B4 [.t 87, cI 0] 88 84 false,
 jP 84 88 89, iM 90 89, jN 18 5 91 90, jB L1 91 92 90, iG B6 [.t 92, cI 0] 93 90 false, jP 90 93 94, iM 95 94, jN 19 5 96 95,
 jB L1 96 97 95, iG B6 [.t 97, .c zS] 98 95 false, jP 95 98 99, iM 100 99, jN 20 5 101 100, jB L1 101 102 100, iG B6 [.t 102, cI 0] 103 100 false,
 jP 100 103 104] (jI 104 (jS [iJ .mv [.c zF] 2] .ret))) (jS [iJ .mv [.c (.fn (.func 46) [])] 6] (.seq (jS [jF 10 1 105,
 iU L1 105 106] (.block 2 (.seq (jS [jK B1 106 1 108, iM 107 108] (.ite (.t 107) .skip (.ops [jK B1 106 2 109, iM 107 109])))
 (.ite (.t 107) (jS [iU (.ld 21 true) 1 110, iU (.call 47) 110 111, iM 112 111, jL 15 1 113 112, jA L1 113 114 112, jA (.call 48) 114 115 112,
 jQ 112 115 116, iM 2 116] .ret) (jS [jK B1 106 3 118, iM 117 118] (.ite (.t 117) (jS [jF 2 1 119, iU L8 119 120, jF 11 1 121,
 iU L2 121 122, iD (.call 23) 120 122 123, iM 124 123, jL 17 1 125 124, jA L1 125 126 124, jL 2 1 127 124, jA L8 127 128 124,
 iG (.call 49) [.t 126, cI 1, .t 128] 129 124 true, jQ 124 129 130, iM 131 130, jA .mv 6 132 131, jL 18 1 133 131, jA L1 133 134 131,
 iG .yv [.t 132, .t 134] 135 131 true, jQ 131 135 136, iM 137 136, jL 19 1 138 137, jA L1 138 139 137, jA .lenS 139 140 137,
 iG B8 [.t 140, cI 1] 141 137 true, jQ 137 141 142, iM 143 142, jA .mv 6 144 143, jL 19 1 145 143, jA L1 145 146 143, jA .lenS 146 147 143,
 iG .yv [.t 144, .t 147] 148 143 true, jQ 143 148 149, iM 150 149, jA .mv 6 151 150, jL 18 1 152 150, jA L1 152 153 150, jL 19 1 154 150,
 jA L1 154 155 150, jA .lenS 155 156 150, iG B2 [.t 153, .t 156] 157 150 true, iG .yv [.t 151, .t 157] 158 150 true, jQ 150 158 159, iM 2 159] .ret)
 (jS [jK B1 106 4 161, iM 160 161] (.ite (.t 160) (jS [jF 2 1 162, iU L8 162 163, jF 11 1 164, iU L2 164 165, iD (.call 23) 163 165 166, iM 167 166,
 jL 17 1 168 167, jA L1 168 169 167, jL 2 1 170 167, jA L8 170 171 167, iG (.call 49) [.t 169, cI 1, .t 171] 172 167 true, jQ 167 172 173,
 iM 174 173, jA .mv 6 175 174, jL 18 1 176 174, jA L1 176 177 174, iG .yv [.t 175, .t 177] 178 174 true, jQ 174 178 179, iM 2 179] .ret)
 (jS [jK B1 106 5 181, iM 180 181] (.ite (.t 180) (jS [jF 2 1 182, iU L8 182 183, jF 11 1 184, iU L2 184 185, iD (.call 23) 183 185 186, iM 187 186,
 jL 17 1 188 187, jA L1 188 189 187, jL 2 1 190 187, jA L8 190 191 187, iG (.call 49) [.t 189, cI 8, .t 191] 192 187 true, jQ 187 192 193,
 iM 194 193, jL 17 1 195 194, jA L1 195 196 194, jA .len 196 197 194, iG B8 [.t 197, cI 2] 198 194 true, jQ 194 198 199, iM 200 199, jA .mv 6 201 200,
 jL 19 1 202 200, jA L1 202 203 200, jA .lenS 203 204 200, iG .yv [.t 201, .t 204] 205 200 true, jQ 200 205 206, iM 2 206] .ret)
 (jS [jK B1 106 6 208, iM 207 208] (.ite (.t 207) (jS [jF 2 1 209, iU L8 209 210, jF 11 1 211, iU L2 211 212, iD (.call 23) 210 212 213, iM 214 213,
 jL 16 1 215 214, jA L1 215 216 214, jL 2 1 217 214, jA L8 217 218 214, iG (.call 49) [.t 216, cI 8, .t 218] 219 214 true, jQ 214 219 220,
 iM 2 220] .ret) (jS [jK B1 106 7 222, iM 221 222] (.ite (.t 221) (jS [jF 2 1 223, iU L8 223 224, jF 11 1 225, iU L2 225 226, iD (.call 23) 224 226 227,
 iM 228 227, jL 16 1 229 228, jA L1 229 230 228, jL 2 1 231 228, jA L8 231 232 228, iG (.call 49) [.t 230, cI 8, .t 232] 233 228 true,
 jQ 228 233 234, iM 235 234, jA (.ld 21 true) 1 236 235, jA (.call 47) 236 237 235, jQ 235 237 238, iM 239 238, jL 15 1 240 239,
 jA L1 240 241 239, jA (.call 48) 241 242 239, jQ 239 242 243, iM 2 243] .ret) (jS [jK B1 106 8 245, iM 244 245]
 (jI 244 (jS [jF 20 1 246, iU L1 246 247, jK B8 247 1 248, iM 249 248, jL 20 1 250 249, jA L1 250 251 249, iG B7 [.t 251, cI 4] 252 249 true,
 jQ 249 252 253, iM 2 253] .ret))))))))))))))))) (jS [iJ .mv [.c zT] 2] .ret))))))))
theorem fn22 : Be Tryz.prog 22 = some (254, [.t 2], ir22) := by kernel_rfl
def ir23 : C := (jS [iU .box 0 2, iU .box 1 3, iJ .mv [.c zF] 4] (.seq (.any [14] [(jF 1 3 5, 0, [14]), (iU L1 5 6, 1, [14]), (iJ B8 [.t 6, .c (.pv (.i .u32 1))] 7, 0, [14]),
 (iM 8 7, 0, [14]), (jL 1 3 9 8, 0, [14]), (jA L1 9 10 8, 1, [14]), (jA L8 2 11 8, 1, [14]), (jL 0 3 12 8, 0, [14]), (jA L1 12 13 8, 1, [14]),
 (iG (.call 50) [.t 11, .t 13] 14 8 true, 1, [14]), (iG B7 [.t 10, .t 14] 15 8 true, 0, []), (jQ 8 15 16, 0, [14]), (iM 4 16, 0, [])]) .ret))
theorem fn23 : Be Tryz.prog 23 = some (17, [.t 4], ir23) := by kernel_rfl
def ir24 : C := (jS [iU .box 0 2, iU .box 1 3, iJ .mv [.c zF] 4] (.seq (jS [iU L8 2 7, jC 0 8] (.block 0 (.loop (jS [jK B3 8 8 9] (.seq (.ite (.t 9) .skip
 (.exit 0)) (.seq (.block 1 (jS [iM 10 8, iD (.ixA 8 1 false) 7 8 11, iM 5 10, iM 6 11] (jS [iM 12 6, iM 13 5, iD (.iaA 8 1) 3 13 14, iU L1 14 15, iD B4 12 15 16]
 (jI 16 (jS [iJ .mv [.c zF] 4] .ret))))) (.ops [jK B2 8 1 17, iM 8 17]))))))) (jS [iJ .mv [.c zT] 4] .ret)))
theorem fn24 : Be Tryz.prog 24 = some (18, [.t 4], ir24) := by kernel_rfl
def ir25 : C := (jS [iU .box 0 2, iU .box 1 3, iJ (.new zV) [] 4] (.seq (jS [jF 0 3 5, iU L1 5 6, jK B8 6 1 7, iM 8 7, jL 0 3 9 8, jA L1 9 10 8,
 iG B7 [.t 10, cI 8] 11 8 true, jQ 8 11 12] (jI 12 (.any [] [(jF 0 3 13, 0, []), (iU L1 13 14, 1, []), (jK B5 14 1 15, 0, []), (jF 0 3 16, 0, []),
 (iU L1 16 17, 1, []), (jK B5 17 1 18, 0, []), (iD (.iaA 8 1) 2 18 19, 0, []), (iU L1 19 20, 1, []), (jF 1 3 21, 0, []), (iU L1 21 22, 1, []), (iD .mx 20 22 23, 0, []),
 (iD (.iaA 8 1) 2 15 24, 0, []), (jW 1 24 23, 2, [])]))) (jS [iU L8 2 25, jW 8 4 25] .ret)))
theorem fn25 : Be Tryz.prog 25 = some (26, [.c 4 8 true], ir25) := by kernel_rfl
def ir26 : C := (jS [iU .box 1 3, jC 0 4] (.seq (jS [jF 10 3 13, iU L1 13 14] (.block 0 (jS [jK B1 14 8 16, iM 15 16]
 (.ite (.t 15) (.seq (.any [] [(iM 17 0, 0, []), (jF 0 3 18, 0, []), (jF 0 18 19, 0, []), (iU L1 19 20, 1, []), (jK B5 20 1 21, 0, []), (jF 20 3 22, 0, []),
 (iU L1 22 23, 1, []), (iU .nilc 17 24, 0, []), (jF 10 24 25, 0, []), (iD (.iaA 8 1) 25 21 26, 0, []), (jW 1 26 23, 2, [])]) (jS [jC 0 4] .ret))
 (jS [jK B1 14 9 28, iM 27 28] (.ite (.t 27) (.seq (.any [] [(iM 29 0, 0, []), (jF 0 3 30, 0, []), (jF 0 30 31, 0, []), (iU L1 31 32, 1, []),
 (jK B5 32 1 33, 0, []), (iU .nilc 29 34, 0, []), (jF 18 34 35, 0, []), (iD (.iaA 8 1) 35 33 36, 0, []), (iO S1 [.t 36, .c zT], 2, [])]) (jS [jC 0 4] .ret))
 (.seq (jS [jK B1 14 1 38, iM 37 38] (.ite (.t 37) .skip (.ops [jK B1 14 2 39, iM 37 39]))) (jI 37 (.seq (.seq (.any [45] [(iM 40 0, 0, [45]),
 (iU .nilc 40 41, 0, [45]), (iU (.ld 26 true) 41 42, 1, [45]), (jF 13 3 43, 0, [45]), (iU L2 43 44, 1, [45]), (iD (.call 51) 42 44 45, 3, [45]), (iM 5 45, 0, [])]) (jS [iM 46 5,
 jK B6 46 0 47] (jI 47 (jS [iM 48 5, iM 4 48] .ret)))) (.seq (.any [56] [(iM 50 0, 0, [56]), (iU .nilc 50 51, 0, [56]), (jF 8 51 52, 0, [56]),
 (iU L1 52 53, 1, [56]), (jF 0 3 54, 0, [56]), (iU L2 54 55, 1, [56]), (iD (.call 29) 53 55 56, 3, [56]), (iM 49 56, 0, []), (iU (.ext 0) 49 57, 0, [56]), (iU (.ext 1) 49 58, 0, [56]),
 (iM 6 57, 0, []), (iM 7 58, 0, [])]) (.seq (.any [75, 76] [(iM 59 0, 0, [75, 76]), (iM 60 0, 0, [75, 76]), (iU .nilc 60 61, 0, [75, 76]), (jF 8 61 62, 0, [75, 76]), (iU L1 62 63, 1, [75, 76]),
 (iM 64 6, 0, [75, 76]), (jF 0 3 65, 0, [75, 76]), (iU L2 65 66, 1, [75, 76]), (jF 10 3 67, 0, [75, 76]), (iU L1 67 68, 1, [75, 76]), (jK B1 68 2 69, 0, [75, 76]),
 (jF 0 3 70, 0, [75, 76]), (iU L2 70 71, 1, [75, 76]), (jF 15 3 72, 0, [75, 76]), (iU L1 72 73, 1, [75, 76]),
 (iJ (.bld [2, 1, 2, 1, 8, 1]) [.t 66, .t 69, .t 71, .t 73, .c zV, .c zN] 74, 0, [75, 76]), (iU (.bsl 15) 74 75, 1, [75, 76]), (iJ (.call 52) [.t 63, .t 64, .t 75] 76, 2, [76]),
 (iU .nilc 59 77, 0, []), (jF 8 77 78, 0, []), (jW 1 78 76, 2, [])]) (.seq (.any [93] [(iM 79 0, 0, [93]), (iM 80 0, 0, [93]), (iU .nilc 80 81, 0, [93]), (jF 9 81 82, 0, [93]),
 (iU L1 82 83, 1, [93]), (jF 0 3 84, 0, [93]), (iU L2 84 85, 1, [93]), (jF 13 3 86, 0, [93]), (iU L2 86 87, 1, [93]), (jF 15 3 88, 0, [93]), (iU L1 88 89, 1, [93]),
 (jF 0 3 90, 0, [93]), (iU L2 90 91, 1, [93]), (iJ (.bld [2, 2, 1, 2, 8]) [.t 85, .t 87, .t 89, .t 91, .c zV] 92, 0, [93]), (iD (.call 53) 83 92 93, 2, [93]), (iU .nilc 79 94, 0, []),
 (jF 9 94 95, 0, []), (jW 1 95 93, 2, [])]) (jS [jC 0 4] .ret))))))))))))) (.seq (.any [103] [(iM 97 0, 0, [103]), (iU .nilc 97 98, 0, [103]),
 (jF 8 98 99, 0, [103]), (iU L1 99 100, 1, [103]), (jF 11 3 101, 0, [103]), (iU L2 101 102, 1, [103]), (iD (.call 29) 100 102 103, 3, [103]), (iM 96 103, 0, []),
 (iU (.ext 0) 96 104, 0, [103]), (iU (.ext 1) 96 105, 0, [103]), (iM 8 104, 0, []), (iM 9 105, 0, [])]) (.seq (jS [iM 106 9, iU U1 106 107] (jI 107 (jS [jC 2 4] .ret))) (jS [iM 108 0, iU .nilc 108 109, jF 8 109 110, iU L1 110 111, iM 112 8, iD (.iaS 15) 111 112 113, iM 10 113] (.seq (jS [jF 10 3 114, iU L1 114 115,
 jK B1 115 6 116, iM 117 116, jN 10 3 118 117, jB L1 118 119 117, iG B1 [.t 119, cI 7] 120 117 false, jP 117 120 121]
 (jI 121 (jS [iM 122 0, iM 123 10, iU (.ld 21 true) 3 124, iJ (.call 54) [.t 122, .t 123, .t 124] 125, iM 4 125] .ret))) (.seq (jS [iM 126 10, iU .nilc 126 127,
 jF 2 127 128, iU L1 128 129] (jI 129 (jS [jC 23 4] .ret))) (.seq (.any [136] [(iM 131 10, 0, [136]), (iU .nilc 131 132, 0, [136]),
 (jF 14 132 133, 0, [136]), (iU L1 133 134, 1, [136]), (iU (.ld 21 true) 3 135, 1, [136]), (iD (.call 55) 134 135 136, 3, [136]), (iM 130 136, 0, []), (iU (.ext 0) 130 137, 0, [136]),
 (iU (.ext 1) 130 138, 0, [136]), (iM 11 137, 0, []), (iM 12 138, 0, [])]) (.seq (jS [iM 139 12, jK B6 139 0 140] (jI 140 (jS [iM 141 12, iM 4 141] .ret)))
 (.seq (.any [154] [(iM 143 10, 0, [154]), (iM 144 10, 0, [154]), (iU .nilc 144 145, 0, [154]), (jF 14 145 146, 0, [154]), (iU L1 146 147, 1, [154]), (jF 17 3 148, 0, [154]),
 (iU L1 148 149, 1, [154]), (jF 0 3 150, 0, [154]), (iU L2 150 151, 1, [154]), (iM 152 11, 0, [154]), (iJ (.bld [2, 1, 8]) [.t 151, .t 152, .c zV] 153, 0, [154]),
 (iJ (.call 56) [.t 147, .t 149, .t 153] 154, 2, [154]), (iM 142 154, 0, []), (iU (.ext 0) 142 155, 0, [154]), (iU (.ext 1) 142 156, 0, [154]), (iU .nilc 143 157, 0, []), (jF 14 157 158, 0, []),
 (jW 1 158 155, 2, []), (iM 12 156, 0, [])]) (jS [iM 159 12, iM 4 159] .ret)))))))))))
theorem fn26 : Be Tryz.prog 26 = some (160, [.t 4], ir26) := by kernel_rfl
def ir27 : C := (jS [iJ .mv [.c zF] 4] (.seq (jS [iM 6 0, iU .len 6 7, iM 8 1, iU .len 8 9, iD B6 7 9 10] (jI 10 (jS [iJ .mv [.c zF] 4] .ret)))
 (.seq (jS [jC 0 5] (.block 0 (.loop (.seq (jS [iM 11 5, iM 12 0, iU .len 12 13, iD B3 11 13 14] (.ite (.t 14) .skip (.exit 0)))
 (.seq (.block 1 (.seq (.any [] [(iM 17 0, 0, []), (iM 18 5, 0, []), (iD (.iaS 15) 17 18 19, 1, []), (iU (.ld 15 true) 19 20, 1, []), (iM 21 1, 0, []), (iM 22 5, 0, []),
 (iD (.iaS 15) 21 22 23, 1, []), (iU (.ld 15 true) 23 24, 1, []),
 (iD (.eqv true [.int .i64, .int .u32, .int .i64, .int .u32, .str, .int .i64, .int .u32, .int .u32, .int .u32, .int .u32, .int .u32, .int .u32, .int .u32, .int .u32, .int .u32]) 20 24 25, 0, [])])
 (jI 25 (jS [iJ .mv [.c zF] 4] .ret)))) (.ops [iM 15 5, jK B2 15 1 16, iM 5 16])))))) (jS [iJ .mv [.c zT] 4] .ret))))
theorem fn27 : Be Tryz.prog 27 = some (26, [.t 4], ir27) := by kernel_rfl
def ir28 : C := (jS [iJ .mv [.c zF] 4] (.seq (jS [iM 6 0, iU .len 6 7, iM 8 1, iU .len 8 9, iD B6 7 9 10] (jI 10 (jS [iJ .mv [.c zF] 4] .ret)))
 (.seq (jS [jC 0 5] (.block 0 (.loop (.seq (jS [iM 11 5, iM 12 0, iU .len 12 13, iD B3 11 13 14] (.ite (.t 14) .skip (.exit 0)))
 (.seq (.block 1 (.seq (.any [] [(iM 17 0, 0, []), (iM 18 5, 0, []), (iD (.iaS 11) 17 18 19, 1, []), (iU (.ld 11 true) 19 20, 1, []), (iM 21 1, 0, []), (iM 22 5, 0, []),
 (iD (.iaS 11) 21 22 23, 1, []), (iU (.ld 11 true) 23 24, 1, []),
 (iD (.eqv true [.int .i64, .int .u32, .str, .int .u32, .int .u32, .int .u32, .int .u32, .int .u32, .int .u32, .int .u32, .int .u32]) 20 24 25, 0, [])]) (jI 25 (jS [iJ .mv [.c zF] 4]
 .ret)))) (.ops [iM 15 5, jK B2 15 1 16, iM 5 16])))))) (jS [iJ .mv [.c zT] 4] .ret))))
theorem fn28 : Be Tryz.prog 28 = some (26, [.t 4], ir28) := by kernel_rfl
def ir29 : C := (jS [iU .box 1 3, jC 0 4, iJ .mv [.c zF] 5] (jS [iM 6 0, iU L2 3 7, iJ (.call 57) [.t 6, .t 7, .c (.fn (.func 58) [])] 8, iU (.ext 0) 8 9, iU (.ext 1) 8 10,
 iM 4 9, iM 5 10] .ret))
theorem fn29 : Be Tryz.prog 29 = some (11, [.t 4, .t 5], ir29) := by kernel_rfl
def ir34 : C := (jS [iU .box 1 3, iJ .mv [.c zF] 4] (.seq (jS [jC 0 5] (.block 0 (.loop (.seq (jS [iM 6 5, iM 7 0, iU .len 7 8, iD B3 6 8 9] (.ite (.t 9) .skip
 (.exit 0))) (.seq (.block 1 (.seq (.any [] [(iM 12 0, 0, []), (iM 13 5, 0, []), (iD (.iaS 2) 12 13 14, 1, []), (iU L2 14 15, 1, []), (iU L2 3 16, 1, []),
 (iD (.eqv false [.int .i64, .int .u32]) 15 16 17, 0, [])]) (jI 17 (jS [iJ .mv [.c zT] 4] .ret)))) (.ops [iM 10 5, jK B2 10 1 11, iM 5 11]))))))
 (jS [iJ .mv [.c zF] 4] .ret)))
theorem fn34 : Be Tryz.prog 34 = some (18, [.t 4], ir34) := by kernel_rfl
def ir35 : C := (jS [iU .box 1 3, iJ .mv [.c zN] 4] (jS [iJ .mv [.c zN] 5] (jS [iJ .mv [.c zF] 6] (.seq (jS [jC 0 7]
 (.block 0 (.loop (.seq (jS [iM 9 7, iM 10 0, iU .len 10 11, iD B3 9 11 12] (.ite (.t 12) .skip (.exit 0))) (.seq (.block 1 (.seq (.seq (.any [] [(iM 15 0, 0, []), (iM 16 7, 0, []),
 (iD (.iaS 15) 15 16 17, 1, []), (jF 0 17 18, 0, []), (iU L2 18 19, 1, []), (jF 0 3 20, 0, []), (iU L2 20 21, 1, []), (iD (.eqv false [.int .i64, .int .u32]) 19 21 22, 0, [])])
 (jI 22 (jS [iM 23 0, iM 24 7, iD (.iaS 15) 23 24 25, iU (.ld 15 true) 25 26, iJ (.new (.agg [zI, zU, zI, zU, zS, zI, zU, zV])) [] 8, jW 15 8 26]
 (jS [jF 7 8 27, iU L8 27 28, jF 7 3 29, iU L8 29 30, iD (.call 37) 28 30 31, jF 7 8 32, jW 8 32 31] (jS [iM 33 5, iU (.ld 15 true) 8 34,
 iU (.bsl 15) 34 35, iD (.app 15 96) 33 35 36, iM 5 36] (jS [iJ .mv [.c zT] 6] (.exit 1))))))) (.seq (.seq (.any [47] [(iM 37 6, 0, [47]), (iU U1 37 38, 0, [47]), (iM 39 38, 0, [47]),
 (jL 0 3 40 39, 0, [47]), (jA L2 40 41 39, 1, [47]), (jA .mv 0 42 39, 0, [47]), (jA .mv 7 43 39, 0, [47]), (iG (.iaS 15) [.t 42, .t 43] 44 39 true, 1, [47]),
 (jL 0 44 45 39, 0, [47]), (jA L2 45 46 39, 1, [47]), (iG (.call 16) [.t 41, .t 46] 47 39 true, 3, [47]), (jQ 39 47 48, 0, [])])
 (jI 48 (jS [iM 49 5, iU (.ld 15 true) 3 50, iU (.bsl 15) 50 51, iD (.app 15 96) 49 51 52, iM 5 52] (.ops [iJ .mv [.c zT] 6])))) (.ops [iM 53 5, iM 54 0, iM 55 7,
 iD (.iaS 15) 54 55 56, iU (.ld 15 true) 56 57, iU (.bsl 15) 57 58, iD (.app 15 96) 53 58 59, iM 5 59])))) (.ops [iM 13 7, jK B2 13 1 14, iM 7 14])))))) (.seq (jS [iM 60 6,
 iU U1 60 61] (jI 61 (.ops [iM 62 5, iU (.ld 15 true) 3 63, iU (.bsl 15) 63 64, iD (.app 15 96) 62 64 65, iM 5 65]))) (jS [iM 66 5, iM 4 66] .ret))))))
theorem fn35 : Be Tryz.prog 35 = some (67, [.t 4], ir35) := by kernel_rfl
def ir36 : C := (jS [iU .box 1 3, iJ .mv [.c zN] 4] (jS [iJ .mv [.c zN] 5] (.seq (jS [jC 0 6] (.block 0 (.loop (.seq (jS [iM 9 6, iM 10 0, iU .len 10 11,
 iD B3 9 11 12] (.ite (.t 12) .skip (.exit 0))) (.seq (.block 1 (.seq (.seq (.any [19] [(iM 15 0, 0, [19]), (iM 16 6, 0, [19]), (iD (.iaS 21) 15 16 17, 1, [19]), (iU (.ld 21 true) 17 18, 1, [19]),
 (iU (.call 60) 18 19, 3, [19]), (iU U1 19 20, 0, []), (iM 21 20, 0, []), (jB .mv 0 22 21, 0, [19]), (jB .mv 6 23 21, 0, [19]), (iG (.iaS 21) [.t 22, .t 23] 24 21 false, 1, [19]),
 (jN 11 24 25 21, 0, [19]), (jB L2 25 26 21, 1, [19]), (jB L2 3 27 21, 1, [19]), (iG (.eqv true [.int .i64, .int .u32]) [.t 26, .t 27] 28 21 false, 0, [19]),
 (jP 21 28 29, 0, [19])]) (jI 29 (.exit 1))) (.seq (.any [41, 7] [(iM 30 0, 0, [41, 7]), (iM 31 6, 0, [41, 7]), (iD (.iaS 21) 30 31 32, 1, [41, 7]),
 (jF 0 32 33, 0, [41, 7]), (iU L2 33 34, 1, [41, 7]), (iM 35 0, 0, [41, 7]), (iM 36 0, 0, [41, 7]), (iM 37 6, 0, [41, 7]), (iD (.iaS 21) 36 37 38, 1, [41, 7]), (jF 0 38 39, 0, [41, 7]),
 (iU L2 39 40, 1, [41, 7]), (iD (.call 61) 35 40 41, 1, [41, 7]), (iJ (.bld [2, 1, 8]) [.t 34, .t 41, .c zV] 42, 0, [7]), (iJ (.new (.agg [zI, zU, zS, zV])) [] 7, 1, [41, 7]),
 (jW 11 7 42, 2, [])]) (.seq (jS [jC 0 8] (.block 2 (.loop (.seq (jS [iM 43 8, iM 44 0, iU .len 44 45, iD B3 43 45 46] (.ite (.t 46) .skip (.exit 2)))
 (.seq (.block 3 (.seq (.any [53, 71] [(iM 49 0, 0, [53, 71]), (iM 50 8, 0, [53, 71]), (iD (.iaS 21) 49 50 51, 1, [53, 71]), (iU (.ld 21 true) 51 52, 1, [53, 71]), (iU (.call 60) 52 53, 3, [53, 71]),
 (iM 54 53, 0, [71]), (jA .mv 0 55 54, 0, [53, 71]), (jA .mv 8 56 54, 0, [53, 71]), (iG (.iaS 21) [.t 55, .t 56] 57 54 true, 1, [53, 71]), (jL 11 57 58 54, 0, [53, 71]),
 (jA L2 58 59 54, 1, [53, 71]), (jA L2 3 60 54, 1, [53, 71]), (iG (.eqv false [.int .i64, .int .u32]) [.t 59, .t 60] 61 54 true, 0, [53, 71]),
 (jQ 54 61 62, 0, [53, 71]), (iM 63 62, 0, [53, 71]), (jA .mv 0 64 63, 0, [53, 71]), (jA .mv 8 65 63, 0, [53, 71]),
 (iG (.iaS 21) [.t 64, .t 65] 66 63 true, 1, [53, 71]), (jL 17 66 67 63, 0, [53, 71]), (jA L1 67 68 63, 1, [53, 71]), (jL 0 7 69 63, 0, [53, 71]),
 (jA L2 69 70 63, 1, [53, 71]), (iG (.call 34) [.t 68, .t 70] 71 63 true, 2, [53, 71]), (jQ 63 71 72, 0, [53])]) (jI 72 (.any [80] [(jF 3 7 73, 0, [80]),
 (iU L8 73 74, 1, [80]), (iM 75 0, 0, [80]), (iM 76 8, 0, [80]), (iD (.iaS 21) 75 76 77, 1, [80]), (jF 0 77 78, 0, [80]), (iU L2 78 79, 1, [80]), (iD (.call 18) 74 79 80, 3, [80]),
 (jF 3 7 81, 0, []), (jW 8 81 80, 2, [])])))) (.ops [iM 47 8, jK B2 47 1 48, iM 8 48])))))) (.ops [iM 83 5, iU (.ld 11 true) 7 84,
 iJ (.call 62) [.t 83, .c zN, .t 84] 85, iM 82 85, iU (.ext 0) 82 86, iU (.ext 1) 82 87, iM 5 86]))))) (.ops [iM 13 6, jK B2 13 1 14, iM 6 14])))))) (jS [iM 88 5, iM 4 88] .ret))))
theorem fn36 : Be Tryz.prog 36 = some (89, [.t 4], ir36) := by kernel_rfl
def ir37 : C := (jS [iU .box 0 2, iU .box 1 3, iJ (.new zV) [] 4] (jS [iJ (.bldV 8 1) [.c zU, .c zU, .c zU, .c zU, .c zU, .c zU, .c zU, .c zU] 7, iJ (.new zV) [] 5,
 jW 8 5 7] (.seq (jS [jC 0 6] (.block 0 (.loop (.seq (jS [iM 8 6, jK B3 8 8 9] (.ite (.t 9) .skip (.exit 0))) (.seq (.block 1 (jS [iM 12 6,
 iM 13 6, iD (.iaA 8 1) 2 13 14, iU L1 14 15, iD (.iaA 8 1) 5 12 16, jW 1 16 15] (.seq (.any [] [(iM 17 6, 0, []), (iD (.iaA 8 1) 3 17 18, 0, []), (iU L1 18 19, 1, []), (iM 20 6, 0, []),
 (iD (.iaA 8 1) 2 20 21, 0, []), (iU L1 21 22, 1, []), (iD B4 19 22 23, 0, [])]) (jI 23 (.ops [iM 24 6, iM 25 6, iD (.iaA 8 1) 3 25 26, iU L1 26 27, iD (.iaA 8 1) 5 24 28,
 jW 1 28 27]))))) (.ops [iM 10 6, jK B2 10 1 11, iM 6 11])))))) (jS [iU L8 5 29, jW 8 4 29] .ret))))
theorem fn37 : Be Tryz.prog 37 = some (30, [.c 4 8 true], ir37) := by kernel_rfl
def ir38 : C := (jS [iU .box 0 1, iJ (.new zV) [] 2] (jS [iJ (.bldV 8 1) [.c zU, .c zU, .c zU, .c zU, .c zU, .c zU, .c zU, .c zU] 5, iJ (.new zV) [] 3, jW 8 3 5]
 (.seq (jS [jC 0 4] (.block 0 (.loop (.seq (jS [iM 6 4, jK B3 6 8 7] (.ite (.t 7) .skip (.exit 0))) (.seq (.block 1 (jS [iM 10 4, jK B2 10 1 11,
 jF 0 1 12, iU L1 12 13, iD B1 11 13 14] (jI 14 (.ops [iM 15 4, jF 1 1 16, iU L1 16 17, iD (.iaA 8 1) 3 15 18, jW 1 18 17])))) (.ops [iM 8 4, jK B2 8 1 9,
 iM 4 9])))))) (jS [iU L8 3 19, jW 8 2 19] .ret))))
theorem fn38 : Be Tryz.prog 38 = some (20, [.c 2 8 true], ir38) := by kernel_rfl
def ir39 : C := (jS [iU .box 0 1, iJ .mv [.c zF] 2] (.seq (.seq (.any [37] [(jF 0 1 9, 0, [37]), (jF 0 9 10, 0, [37]), (iU L1 10 11, 1, [37]), (jK B3 11 1 12, 0, [37]),
 (iM 13 12, 0, [37]), (jN 0 1 14 13, 0, [37]), (jN 0 14 15 13, 0, [37]), (jB L1 15 16 13, 1, [37]), (iG B4 [.t 16, cI 8] 17 13 false, 0, [37]),
 (jP 13 17 18, 0, [37]), (iM 19 18, 0, [37]), (jN 0 1 20 19, 0, [37]), (jN 1 20 21 19, 0, [37]), (jB L1 21 22 19, 1, [37]),
 (iG B3 [.t 22, .c (.pv (.i .u32 1))] 23 19 false, 0, [37]), (jP 19 23 24, 0, [37]), (iM 25 24, 0, [37]), (jN 0 1 26 25, 0, [37]),
 (jN 1 26 27 25, 0, [37]), (jB L1 27 28 25, 1, [37]), (iG B4 [.t 28, .c (.pv (.i .u32 1048576))] 29 25 false, 0, [37]), (jP 25 29 30, 0, [37]),
 (iM 31 30, 0, [37]), (jN 2 1 32 31, 0, [37]), (jB L8 32 33 31, 1, [37]), (jN 0 1 34 31, 0, [37]), (jN 0 34 35 31, 0, [37]), (jB L1 35 36 31, 1, [37]),
 (iG (.call 17) [.t 33, .t 36] 37 31 false, 1, [37]), (iG B2 [.t 37, .c (.pv (.i .u32 1))] 38 31 false, 0, []), (jN 0 1 39 31, 0, [37]), (jN 1 39 40 31, 0, [37]),
 (jB L1 40 41 31, 1, [37]), (iG B6 [.t 38, .t 41] 42 31 false, 0, [37]), (jP 31 42 43, 0, [37])]) (jI 43 (jS [iJ .mv [.c zF] 2] .ret)))
 (.seq (jS [jC 0 3] (.block 0 (.loop (.seq (jS [iM 44 3, jK B3 44 8 45] (.ite (.t 45) .skip (.exit 0))) (.seq (.block 1 (jS [iM 48 3, jF 2 1 49,
 iD (.iaA 8 1) 49 48 50, iU L1 50 51, iJ B4 [.t 51, .c (.pv (.i .u32 1048576))] 52] (jI 52 (jS [iJ .mv [.c zF] 2] .ret)))) (.ops [iM 46 3, jK B2 46 1 47, iM 3 47]))))))
 (.seq (.any [57, 60, 66] [(jF 2 1 53, 0, [57, 60, 66]), (iU L8 53 54, 1, [57, 60, 66]), (jF 11 1 55, 0, [57, 60, 66]), (iU L2 55 56, 1, [57, 60, 66]),
 (iD (.call 40) 54 56 57, 1, [57, 60, 66]), (jF 13 1 58, 0, [57, 60, 66]), (iU L2 58 59, 1, [57, 60, 66]), (iU (.call 63) 59 60, 3, [60, 66]), (iM 61 60, 0, [57, 66]),
 (jN 2 1 62 61, 0, [57, 60, 66]), (jB L8 62 63 61, 1, [57, 60, 66]), (jN 13 1 64 61, 0, [57, 60, 66]), (jB L2 64 65 61, 1, [57, 60, 66]),
 (iG (.call 40) [.t 63, .t 65] 66 61 false, 3, [57, 60, 66]), (jP 61 66 67, 0, [57, 60]), (iM 4 57, 0, [60]), (iM 5 67, 0, [])])
 (.seq (.any [77, 83] [(jF 16 1 68, 0, [77, 83]), (iU L1 68 69, 1, [77, 83]), (iU .len 69 70, 1, [77, 83]), (jK B7 70 8 71, 0, [77, 83]), (iM 72 71, 0, [77, 83]),
 (jL 16 1 73 72, 0, [77, 83]), (jA L1 73 74 72, 1, [77, 83]), (jL 2 1 75 72, 0, [77, 83]), (jA L8 75 76 72, 1, [77, 83]),
 (iG (.call 64) [.t 74, .t 76] 77 72 true, 1, [77, 83]), (jQ 72 77 78, 0, [83]), (jF 17 1 79, 0, [77, 83]), (iU L1 79 80, 1, [77, 83]), (jF 2 1 81, 0, [77, 83]),
 (iU L8 81 82, 1, [77, 83]), (iD (.call 64) 80 82 83, 2, [83]), (iM 6 78, 0, []), (iM 7 83, 0, [])]) (jS [jF 18 1 84, iU L1 84 85, jK B8 85 0 86, iM 87 86,
 jL 18 1 88 87, jA L1 88 89 87, iG B7 [.t 89, cI 200] 90 87 true, jQ 87 90 91, iM 8 91] (.seq (jS [jF 10 1 92, iU L1 92 93]
 (.block 2 (.seq (jS [jK B1 93 1 95, iM 94 95] (.ite (.t 94) .skip (.ops [jK B1 93 2 96, iM 94 96]))) (.ite (.t 94) (jS [iM 97 5, iM 98 97, jL 15 1 99 98,
 jA L1 99 100 98, jA (.call 65) 100 101 98, jQ 98 101 102, iM 103 102, jA (.ld 21 true) 1 104 103,
 iG (.call 66) [.t 104, .c zF, .c zT, .c zF, .c zF, .c zF, .c zF, .c zF] 105 103 true, jQ 103 105 106, iM 2 106] .ret) (jS [jK B1 93 3 108, iM 107 108]
 (.ite (.t 107) (jS [iM 109 4, iM 110 109, jA .mv 7 111 110, jQ 110 111 112, iM 113 112, jL 17 1 114 113, jA L1 114 115 113,
 jA .len 115 116 113, iG B7 [.t 116, cI 1] 117 113 true, jQ 113 117 118, iM 119 118, jA .mv 8 120 119, jQ 119 120 121, iM 122 121,
 jL 19 1 123 122, jA L1 123 124 122, iG B6 [.t 124, .c zS] 125 122 true, jQ 122 125 126, iM 127 126, jL 19 1 128 127, jA L1 128 129 127,
 jA .lenS 129 130 127, jL 18 1 131 127, jA L1 131 132 127, iG B5 [cI 200, .t 132] 133 127 true, iG B7 [.t 130, .t 133] 134 127 true, jQ 127 134 135,
 iM 136 135, jA (.ld 21 true) 1 137 136, iG (.call 66) [.t 137, .c zT, .c zF, .c zF, .c zT, .c zT, .c zT, .c zF] 138 136 true, jQ 136 138 139, iM 2 139] .ret)
 (jS [jK B1 93 4 141, iM 140 141] (.ite (.t 140) (jS [iM 142 4, iM 143 142, jA .mv 7 144 143, jQ 143 144 145, iM 146 145,
 jL 17 1 147 146, jA L1 147 148 146, jA .len 148 149 146, iG B7 [.t 149, cI 1] 150 146 true, jQ 146 150 151, iM 152 151, jA .mv 8 153 152,
 jQ 152 153 154, iM 155 154, jA (.ld 21 true) 1 156 155, iG (.call 66) [.t 156, .c zT, .c zF, .c zF, .c zT, .c zT, .c zF, .c zF] 157 155 true,
 jQ 155 157 158, iM 2 158] .ret) (jS [jK B1 93 5 160, iM 159 160] (.ite (.t 159) (jS [iM 161 4, iM 162 161, jA .mv 7 163 162,
 jQ 162 163 164, iM 165 164, jL 17 1 166 165, jA L1 166 167 165, jA .len 167 168 165, iG B8 [.t 168, cI 2] 169 165 true,
 jQ 165 169 170, iM 171 170, jL 17 1 172 171, jA L1 172 173 171, jA .len 173 174 171, iG B7 [.t 174, cI 8] 175 171 true,
 jQ 171 175 176, iM 177 176, jL 19 1 178 177, jA L1 178 179 177, jA .lenS 179 180 177, iG B7 [.t 180, cI 200] 181 177 true,
 jQ 177 181 182, iM 183 182, jA (.ld 21 true) 1 184 183, iG (.call 66) [.t 184, .c zT, .c zF, .c zF, .c zT, .c zF, .c zT, .c zF] 185 183 true,
 jQ 183 185 186, iM 2 186] .ret) (jS [jK B1 93 6 188, iM 187 188] (.ite (.t 187) (jS [iM 189 4, iM 190 189, jA .mv 6 191 190,
 jQ 190 191 192, iM 193 192, jA (.ld 21 true) 1 194 193, iG (.call 66) [.t 194, .c zT, .c zF, .c zT, .c zF, .c zF, .c zF, .c zF] 195 193 true,
 jQ 193 195 196, iM 2 196] .ret) (jS [jK B1 93 7 198, iM 197 198] (.ite (.t 197) (jS [iM 199 4, iM 200 199, jA .mv 6 201 200,
 jQ 200 201 202, iM 203 202, jA .mv 5 204 203, jQ 203 204 205, iM 206 205, jL 15 1 207 206, jA L1 207 208 206,
 jA (.call 65) 208 209 206, jQ 206 209 210, iM 211 210, jA (.ld 21 true) 1 212 211,
 iG (.call 66) [.t 212, .c zT, .c zT, .c zT, .c zF, .c zF, .c zF, .c zF] 213 211 true, jQ 211 213 214, iM 2 214] .ret) (jS [jK B1 93 8 216, iM 215 216]
 (.ite (.t 215) (jS [jF 20 1 217, iU L1 217 218, jK B8 218 1 219, iM 220 219, jL 20 1 221 220, jA L1 221 222 220, iG B7 [.t 222, cI 4] 223 220 true,
 jQ 220 223 224, iM 225 224, jA (.ld 21 true) 1 226 225, iG (.call 66) [.t 226, .c zF, .c zF, .c zF, .c zF, .c zF, .c zF, .c zT] 227 225 true,
 jQ 225 227 228, iM 2 228] .ret) (jS [jK B1 93 9 230, iM 229 230] (jI 229 (jS [iU (.ld 21 true) 1 231,
 iJ (.call 66) [.t 231, .c zF, .c zF, .c zF, .c zF, .c zF, .c zF, .c zF] 232, iM 2 232] .ret))))))))))))))))))) (jS [iJ .mv [.c zF] 2] .ret))))))))
theorem fn39 : Be Tryz.prog 39 = some (233, [.t 2], ir39) := by kernel_rfl
def ir40 : C := (jS [iU .box 0 2, iU .box 1 3, iJ .mv [.c zF] 4] (.seq (.any [12] [(jF 1 3 5, 0, [12]), (iU L1 5 6, 1, [12]), (iJ B4 [.t 6, .c zU] 7, 0, [12]), (iM 8 7, 0, [12]),
 (jA L8 2 9 8, 1, [12]), (jL 0 3 10 8, 0, [12]), (jA L1 10 11 8, 1, [12]), (iG (.call 17) [.t 9, .t 11] 12 8 true, 1, [12]), (jL 1 3 13 8, 0, [12]),
 (jA L1 13 14 8, 1, [12]), (iG B8 [.t 12, .t 14] 15 8 true, 0, []), (jQ 8 15 16, 0, [12]), (iM 4 16, 0, [])]) .ret))
theorem fn40 : Be Tryz.prog 40 = some (17, [.t 4], ir40) := by kernel_rfl
def ir41 : C := (jS [iU .box 0 2, iU .box 1 3, iJ .mv [.c zF] 4] (jS [iU L8 2 5, iU L8 3 6, iD (.call 67) 5 6 7, jK B7 7 0 8, iM 4 8] .ret))
theorem fn41 : Be Tryz.prog 41 = some (9, [.t 4], ir41) := by kernel_rfl
def ir42 : C := (jS [iU .box 0 2, iU .box 1 3, jC 0 4] (.seq (jS [iU L2 3 7, iU (.call 68) 7 8] (jI 8 (jS [jC 0 4] .ret)))
 (jS [iU (.ld 26 true) 2 10, iU L2 3 11, iD (.call 43) 10 11 12, iM 9 12, iU (.ext 0) 9 13, iU (.ext 1) 9 14, iJ (.new (.agg [zI, zU, zF, zI, zU, zS, zV, zN])) [] 5,
 jW 15 5 13, iM 6 14] (.seq (jS [iM 15 6, iU U1 15 16] (jI 16 (jS [jC 2 4] .ret))) (.seq (jS [jF 2 5 17, iU L1 17 18,
 iU U1 18 19] (jI 19 (jS [jC 22 4] .ret))) (jS [jC 0 4] .ret))))))
theorem fn42 : Be Tryz.prog 42 = some (20, [.t 4], ir42) := by kernel_rfl
def ir43 : C := (jS [iU .box 0 2, iU .box 1 3, iJ (.new (.agg [zI, zU, zF, zI, zU, zS, zV, zN])) [] 4, iJ .mv [.c zF] 5] (.seq (jS [jC 0 6]
 (.block 0 (.loop (.seq (jS [iM 7 6, jF 8 2 8, iU L1 8 9, iU .len 9 10, iD B3 7 10 11] (.ite (.t 11) .skip (.exit 0))) (.seq (.block 1 (.seq (.any [] [(jF 8 2 14, 0, []),
 (iU L1 14 15, 1, []), (iM 16 6, 0, []), (iD (.iaS 15) 15 16 17, 1, []), (jF 0 17 18, 0, []), (iU L2 18 19, 1, []), (iU L2 3 20, 1, []),
 (iD (.eqv false [.int .i64, .int .u32]) 19 20 21, 0, [])]) (jI 21 (jS [jF 8 2 22, iU L1 22 23, iM 24 6, iD (.iaS 15) 23 24 25, iU (.ld 15 true) 25 26, jW 15 4 26,
 iJ .mv [.c zT] 5] .ret)))) (.ops [iM 12 6, jK B2 12 1 13, iM 6 13]))))))
 (jS [iJ (.bld [2, 1, 2, 1, 8, 1]) [.c (.agg [zI, zU]), .c zF, .c (.agg [zI, zU]), .c zS, .c zV, .c zN] 27, jW 15 4 27, iJ .mv [.c zF] 5] .ret)))
theorem fn43 : Be Tryz.prog 43 = some (28, [.c 4 15 true, .t 5], ir43) := by kernel_rfl
def ir44 : C := (jS [iU .box 1 3, iJ .mv [.c zS] 4, jC 0 5] (.seq (jS [jF 0 3 7, iU L1 7 8, jK B1 8 0 9, iM 10 9, jL 1 3 11 10, jA L1 11 12 10,
 iG B1 [.t 12, .c zU] 13 10 true, jQ 10 13 14] (jI 14 (jS [iJ .mv [.c zS] 4, jC 0 5] .ret))) (.seq (jS [jC 0 6]
 (.block 0 (.loop (.seq (jS [iM 15 6, iM 16 0, iU .len 16 17, iD B3 15 17 18] (.ite (.t 18) .skip (.exit 0))) (.seq (.block 1 (.seq (.any [] [(iM 21 0, 0, []), (iM 22 6, 0, []),
 (iD (.iaS 11) 21 22 23, 1, []), (jF 0 23 24, 0, []), (iU L2 24 25, 1, []), (iU L2 3 26, 1, []), (iD (.eqv false [.int .i64, .int .u32]) 25 26 27, 0, [])]) (jI 27 (jS [iM 28 0,
 iM 29 6, iD (.iaS 11) 28 29 30, jF 2 30 31, iU L1 31 32, iM 4 32, jC 0 5] .ret)))) (.ops [iM 19 6, jK B2 19 1 20, iM 6 20])))))) (jS [iJ .mv [.c zS] 4,
 jC 2 5] .ret))))
theorem fn44 : Be Tryz.prog 44 = some (33, [.t 4, .t 5], ir44) := by kernel_rfl
def ir45 : C := (jS [iU .box 0 1, jE 2] (.seq (jS [jF 10 1 3, iU L1 3 4]
 (.block 0 (.seq (jS [jK B1 4 1 6, iM 5 6] (.ite (.t 5) .skip (.ops [jK B1 4 2 7, iM 5 7]))) (.ite (.t 5) (.ops [iJ (.bld [1, 1]) [cI 0, .c zU] 8, jF 13 1 9,
 jW 2 9 8, jF 15 1 10, iO S1 [.t 10, .c zS]]) (jS [jK B1 4 3 12, iM 11 12] (.ite (.t 11) (.ops [iJ (.bld [1, 1]) [cI 0, .c zU] 13, jF 11 1 14,
 jW 2 14 13, jF 17 1 15, iO S1 [.t 15, .c zN], jF 18 1 16, iO S1 [.t 16, cI 0], jF 19 1 17, iO S1 [.t 17, .c zS]]) (jS [jK B1 4 4 19, iM 18 19]
 (.ite (.t 18) (.ops [iJ (.bld [1, 1]) [cI 0, .c zU] 20, jF 11 1 21, jW 2 21 20, jF 17 1 22, iO S1 [.t 22, .c zN], jF 18 1 23, iO S1 [.t 23, cI 0]])
 (jS [jK B1 4 5 25, iM 24 25] (.ite (.t 24) (.ops [iJ (.bld [1, 1]) [cI 0, .c zU] 26, jF 11 1 27, jW 2 27 26, jF 17 1 28, iO S1 [.t 28, .c zN],
 jF 19 1 29, iO S1 [.t 29, .c zS]]) (jS [jK B1 4 6 31, iM 30 31] (.ite (.t 30) (.ops [iJ (.bld [1, 1]) [cI 0, .c zU] 32, jF 11 1 33, jW 2 33 32,
 jF 16 1 34, iO S1 [.t 34, .c zN]]) (jS [jK B1 4 7 36, iM 35 36] (.ite (.t 35) (.ops [iJ (.bld [1, 1]) [cI 0, .c zU] 37, iJ (.bld [1, 1]) [cI 0, .c zU] 38, jF 11 1 39,
 jW 2 39 37, jF 16 1 40, iO S1 [.t 40, .c zN], jF 13 1 41, jW 2 41 38, jF 15 1 42, iO S1 [.t 42, .c zS]]) (jS [jK B1 4 8 44,
 iM 43 44] (jI 43 (.ops [jF 20 1 45, iO S1 [.t 45, cI 0]]))))))))))))))))) (jS [iU (.ld 21 true) 1 46, jW 21 2 46] .ret)))
theorem fn45 : Be Tryz.prog 45 = some (47, [.c 2 21 true], ir45) := by kernel_rfl
def ir46 : C := (jS [iJ .mv [.c zF] 2] (jS [iM 3 0, jK B8 3 0 4, iM 5 4, jA .mv 0 6 5, iG B7 [.t 6, cI 200] 7 5 true, jQ 5 7 8, iM 2 8] .ret))
theorem fn46 : Be Tryz.prog 46 = some (9, [.t 2], ir46) := by kernel_rfl
def ir47 : C := (jS [iU .box 0 1, iJ .mv [.c zF] 2] (jS [jF 13 1 3, iU L2 3 4, iJ (.bld [1, 1]) [cI 0, .c zU] 5, iD (.eqv false [.int .i64, .int .u32]) 4 5 6, iM 7 6,
 jN 2 1 8 7, jB L8 8 9 7, jN 13 1 10 7, jB L2 10 11 7, iG (.call 23) [.t 9, .t 11] 12 7 false, jP 7 12 13, iM 2 13] .ret))
theorem fn47 : Be Tryz.prog 47 = some (14, [.t 2], ir47) := by kernel_rfl
def ir48 : C := (jS [iJ .mv [.c zF] 2] (.seq (jS [iM 5 0, iU .lenS 5 6, jK B3 6 1 7, iM 8 7, jB .mv 0 9 8, jB .lenS 9 10 8, iG B4 [.t 10, cI 12] 11 8 false,
 jP 8 11 12, iM 13 12, jB .mv 0 14 13, iG B1 [.t 14, .c (.pv (.s [46]))] 15 13 false, jP 13 15 16, iM 17 16, jB .mv 0 18 17,
 iG B1 [.t 18, .c (.pv (.s [46, 46]))] 19 17 false, jP 17 19 20] (jI 20 (jS [iJ .mv [.c zF] 2] .ret))) (.seq (jS [iM 21 0, iU .rgs 21 22]
 (.block 0 (.loop (jS [iU .nxs 22 23, iU (.ext 0) 23 24] (.seq (.ite (.t 24) .skip (.exit 0)) (.block 1 (jS [iU (.ext 2) 23 25, iM 4 25] (jS [iM 26 4, iU (.call 69) 26 27,
 iU U1 27 28, iM 29 28, jA .mv 4 30 29, iG B3 [.t 30, .c (.pv (.i .i32 48))] 31 29 true, jA .mv 31 32 29, jB .mv 4 33 32, iG B4 [.t 33, .c (.pv (.i .i32 57))] 34 32 false,
 iG .pick [.t 32, .c zT, .t 34] 35 29 true, jQ 29 35 36, iM 37 36, jA .mv 4 38 37, iG (.call 70) [.c (.pv (.s [46, 95, 45])), .t 38] 39 37 true, jA U1 39 40 37,
 jQ 37 40 41] (jI 41 (jS [iJ .mv [.c zF] 2] .ret)))))))))) (jS [iJ .mv [.c zT] 2] .ret))))
theorem fn48 : Be Tryz.prog 48 = some (42, [.t 2], ir48) := by kernel_rfl
def ir49 : C := (jS [iU .box 2 5, iJ .mv [.c zF] 6] (.seq (jS [iM 9 0, iU .len 9 10, iM 11 1, iD B4 10 11 12] (jI 12 (jS [iJ .mv [.c zF] 6] .ret)))
 (.seq (jS [iM 13 0, iU .len 13 14, jC 0 15] (.block 0 (.loop (jS [iD B3 15 14 16] (.seq (.ite (.t 16) .skip (.exit 0)) (.seq (.block 1 (jS [iM 17 15,
 iD (.iaS 2) 13 15 18, iU L2 18 19, iJ (.new (.agg [zI, zU])) [] 8, iM 7 17, jW 2 8 19] (.seq (.any [22, 34] [(iU L8 5 20, 1, [22, 34]), (iU L2 8 21, 1, [22, 34]),
 (iD (.call 23) 20 21 22, 3, [22, 34]), (iU U1 22 23, 0, [34]), (iM 24 23, 0, [34]), (jB .mv 7 25 24, 0, [22, 34]), (iG B4 [.t 25, cI 0] 26 24 false, 0, [22, 34]),
 (jB .mv 26 27 24, 0, [22, 34]), (jA .mv 0 28 27, 0, [22, 34]), (jA .mv 7 29 27, 0, [22, 34]), (iG B5 [.t 29, cI 1] 30 27 true, 0, [22, 34]),
 (iG (.iaS 2) [.t 28, .t 30] 31 27 true, 1, [22, 34]), (jA L2 31 32 27, 1, [22, 34]), (jA L2 8 33 27, 1, [22, 34]), (iG (.call 59) [.t 32, .t 33] 34 27 true, 3, [22, 34]),
 (jA U1 34 35 27, 0, [22]), (iG .pick [.t 27, .t 35, .c zF] 36 24 false, 0, [22, 34]), (jP 24 36 37, 0, [22, 34])]) (jI 37 (jS [iJ .mv [.c zF] 6] .ret))))) (.ops [jK B2 15 1 38, iM 15 38]))))))) (jS [iJ .mv [.c zT] 6] .ret))))
theorem fn49 : Be Tryz.prog 49 = some (39, [.t 6], ir49) := by kernel_rfl
def ir50 : C := (jS [iU .box 0 2, iJ .mv [.c zU] 4] (.seq (jS [iM 5 1, jK B3 5 1 6, iM 7 6, jB .mv 1 8 7, iG B4 [.t 8, cI 8] 9 7 false,
 jP 7 9 10] (jI 10 (jS [iJ .mv [.c zU] 4] .ret))) (jS [iM 11 1, jK B5 11 1 12, iD (.iaA 8 1) 2 12 13, iU L1 13 14, iM 4 14] .ret)))
theorem fn50 : Be Tryz.prog 50 = some (15, [.t 4], ir50) := by kernel_rfl
def ir51 : C := (jS [iU .box 0 2, iU .box 1 3, jC 0 4] (.seq (jS [iU L2 3 7, iJ (.bld [1, 1]) [cI 0, .c zU] 8, iD (.eqv false [.int .i64, .int .u32]) 7 8 9]
 (jI 9 (jS [jC 0 4] .ret))) (jS [jF 8 2 11, iU L1 11 12, iU L2 3 13, iD (.call 29) 12 13 14, iM 10 14, iU (.ext 0) 10 15, iU (.ext 1) 10 16, iM 5 15,
 iM 6 16] (.seq (.block 0 (jS [iM 18 6, iU U1 18 19, iM 17 19] (.ite (.t 17) (jS [jC 2 4] .ret) (jS [jF 8 2 21, iU L1 21 22, iM 23 5, iD (.iaS 15) 22 23 24,
 jF 2 24 25, iU L1 25 26, iU U1 26 27, iM 20 27] (jI 20 (jS [jC 22 4] .ret)))))) (jS [jC 0 4] .ret)))))
theorem fn51 : Be Tryz.prog 51 = some (28, [.t 4], ir51) := by kernel_rfl
def ir52 : C := (jS [iJ .mv [.c zN] 6] (jS [iM 10 0, iM 11 1, iD (.slv 15 true false) 10 11 12] (jS [iM 13 2, iU .len 13 14, iM 7 14] (.seq (jS [iM 15 7,
 jK B1 15 0 16] (jI 16 (jS [iM 17 0, iM 6 17] .ret))) (jS [iM 18 0, iU .len 18 19, iM 8 19] (.seq (jS [iM 20 1, iM 21 8, iD B1 20 21 22]
 (jI 22 (jS [iM 23 0, iM 24 2, iD (.app 15 112) 23 24 25, iM 6 25] .ret))) (.seq (jS [iM 26 8, iM 27 7, iD B2 26 27 28, iM 29 0, iU .cap 29 30, iD B4 28 30 31]
 (jI 31 (jS [iM 32 0, iM 33 1, iD (.slv 15 false true) 32 33 34, iM 35 8, iM 36 7, iD B2 35 36 37, iM 38 1, iD B5 37 38 39,
 iD (.apz 15 112 [.i .i64 0, .i .u32 0, .b false, .i .i64 0, .i .u32 0, .s [], .i .u32 0, .i .u32 0, .i .u32 0, .i .u32 0, .i .u32 0, .i .u32 0, .i .u32 0, .i .u32 0, .sl true 0 []]) 34 39 40,
 iM 9 40] (jS [iM 41 9, iM 42 1, iD (.slv 15 true false) 41 42 43, iM 44 2, iD (.cpy 15) 43 44 45] (.seq (.any [] [(iM 46 9, 0, []), (iM 47 1, 0, []), (iM 48 7, 0, []),
 (iD B2 47 48 49, 0, []), (iD (.slv 15 true false) 46 49 50, 1, []), (iM 51 0, 0, []), (iM 52 1, 0, []), (iD (.slv 15 true false) 51 52 53, 1, []), (iD (.cpy 15) 50 53 54, 2, [])])
 (jS [iM 55 9, iM 6 55] .ret)))))) (jS [iM 56 0, iM 57 8, iM 58 7, iD B2 57 58 59, iD (.slx 15) 56 59 60, iM 0 60] (.seq (jS [iM 61 2, iM 62 0, iM 63 1, iM 64 7,
 iD B2 63 64 65, iD (.slv 15 true false) 62 65 66, iD (.call 71) 61 66 67, iU U1 67 68] (jI 68 (.seq (.any [] [(iM 69 0, 0, []), (iM 70 1, 0, []), (iM 71 7, 0, []), (iD B2 70 71 72, 0, []),
 (iD (.slv 15 true false) 69 72 73, 1, []), (iM 74 0, 0, []), (iM 75 1, 0, []), (iD (.slv 15 true false) 74 75 76, 1, []), (iD (.cpy 15) 73 76 77, 2, [])]) (jS [iM 78 0, iM 79 1,
 iD (.slv 15 true false) 78 79 80, iM 81 2, iD (.cpy 15) 80 81 82] (jS [iM 83 0, iM 6 83] .ret))))) (jS [iM 84 0, iM 85 8, iD (.slv 15 true false) 84 85 86, iM 87 2,
 iD (.cpy 15) 86 87 88] (jS [iM 89 0, iM 90 1, iD (.slc 15 true false false) 89 90 91, iM 92 7, iD (.call 72) 91 92 93] (jS [iM 94 0, iM 6 94] .ret))))))))))))
theorem fn52 : Be Tryz.prog 52 = some (95, [.t 6], ir52) := by kernel_rfl
def ir53 : C := (jS [iU .box 1 3, iJ .mv [.c zN] 4] (jS [iM 8 0, jF 0 3 9, iU L2 9 10, iD (.call 73) 8 10 11, iM 7 11, iU (.ext 0) 7 12, iU (.ext 1) 7 13, iM 5 12, iM 6 13]
 (.seq (jS [iM 14 6] (jI 14 (jS [iM 15 0, iU (.call 20) 15 16, iM 4 16] .ret))) (.seq (.any [18, 21, 22] [(iM 17 0, 0, [18, 21, 22]),
 (iU (.call 20) 17 18, 1, [18, 21, 22]), (iM 19 5, 0, [18, 21, 22]), (iU (.ld 15 true) 3 20, 1, [18, 21, 22]), (iU (.bsl 15) 20 21, 1, [18, 21, 22]), (iJ (.call 74) [.t 18, .t 19, .t 21] 22, 3, [22]),
 (iM 4 22, 0, [])]) .ret))))
theorem fn53 : Be Tryz.prog 53 = some (23, [.t 4], ir53) := by kernel_rfl
def ir54 : C := (jS [iU .box 2 5, jC 0 6] (.seq (jS [jF 10 5 10, iU L1 10 11, jK B1 11 7 12] (jI 12 (.seq (.any [18] [(iM 13 0, 0, [18]),
 (iU .nilc 13 14, 0, [18]), (iU (.ld 26 true) 14 15, 1, [18]), (jF 13 5 16, 0, [18]), (iU L2 16 17, 1, [18]), (iD (.call 51) 15 17 18, 3, [18]), (iM 7 18, 0, [])]) (jS [iM 19 7,
 jK B6 19 0 20] (jI 20 (jS [iM 21 7, iM 6 21] .ret)))))) (.seq (jS [iM 22 0, iU .nilc 22 23, jF 9 23 24, iU L1 24 25, iU .len 25 26,
 jC 0 27] (.block 0 (.loop (jS [iD B3 27 26 28] (.seq (.ite (.t 28) .skip (.exit 0)) (.seq (.block 1 (jS [iD (.iaS 15) 25 27 29, iU (.ld 15 true) 29 30,
 iJ (.new (.agg [zI, zU, zI, zU, zS, zI, zU, zV])) [] 9, jW 15 9 30] (jS [jF 5 9 31, iU L2 31 32, jF 11 5 33, iU L2 33 34,
 iD (.eqv false [.int .i64, .int .u32]) 32 34 35, iM 36 35, jL 16 5 37 36, jA L1 37 38 36, jL 0 9 39 36, jA L2 39 40 36, iG (.call 75) [.t 38, .t 40] 41 36 true,
 jQ 36 41 42] (jI 42 (.any [52] [(iM 43 0, 0, [52]), (iM 44 0, 0, [52]), (iU .nilc 44 45, 0, [52]), (jF 9 45 46, 0, [52]), (iU L1 46 47, 1, [52]),
 (jF 0 9 48, 0, [52]), (iU L2 48 49, 1, [52]), (jF 0 5 50, 0, [52]), (iU L2 50 51, 1, [52]), (iJ (.call 76) [.t 47, .t 49, .t 51] 52, 2, [52]), (iU .nilc 43 53, 0, []),
 (jF 9 53 54, 0, []), (jW 1 54 52, 2, [])]))))) (.ops [jK B2 27 1 55, iM 27 55]))))))) (.seq (jS [jF 10 5 56, iU L1 56 57, jK B1 57 6 58]
 (jI 58 (.seq (.any [68, 69] [(iM 59 1, 0, [68, 69]), (iM 60 1, 0, [68, 69]), (iU .nilc 60 61, 0, [68, 69]), (jF 6 61 62, 0, [68, 69]), (iU L8 62 63, 1, [68, 69]),
 (jF 2 5 64, 0, [68, 69]), (iU L8 64 65, 1, [68, 69]), (jF 0 5 66, 0, [68, 69]), (iU L2 66 67, 1, [68, 69]), (iD (.call 25) 65 67 68, 1, [68, 69]), (iD (.call 77) 63 68 69, 2, [69]),
 (iU .nilc 59 70, 0, []), (jF 6 70 71, 0, []), (jW 8 71 69, 2, [])]) (jS [jC 0 6] .ret)))) (.seq (.any [86] [(iM 72 0, 0, [86]), (iM 73 0, 0, [86]),
 (iU .nilc 73 74, 0, [86]), (jF 9 74 75, 0, [86]), (iU L1 75 76, 1, [86]), (jF 0 5 77, 0, [86]), (iU L2 77 78, 1, [86]), (jF 13 5 79, 0, [86]), (iU L2 79 80, 1, [86]),
 (jF 15 5 81, 0, [86]), (iU L1 81 82, 1, [86]), (jF 11 5 83, 0, [86]), (iU L2 83 84, 1, [86]), (iJ (.bld [2, 2, 1, 2, 8]) [.t 78, .t 80, .t 82, .t 84, .c zV] 85, 0, [86]),
 (iD (.call 53) 76 85 86, 2, [86]), (iU .nilc 72 87, 0, []), (jF 9 87 88, 0, []), (jW 1 88 86, 2, [])]) (.seq (.seq (.any [95] [(iM 89 1, 0, [95]), (iU .nilc 89 90, 0, [95]),
 (jF 3 90 91, 0, [95]), (iU L2 91 92, 1, [95]), (jF 0 5 93, 0, [95]), (iU L2 93 94, 1, [95]), (iD (.call 59) 92 94 95, 3, [95])]) (jI 95 (.anyP [] [(iM 96 1, 0, [], [], 0),
 (iM 97 1, 0, [], [], 1), (jF 0 5 98, 0, [], [], 2), (iU L2 98 99, 1, [], [], 3), (jF 15 5 100, 0, [], [], 4), (iU L1 100 101, 1, [], [], 5), (iU .nilc 96 102, 0, [], [], 6),
 (jF 3 102 103, 0, [], [], 7), (jW 2 103 99, 2, [], [5], 8), (iU .nilc 97 104, 0, [], [], 9), (jF 5 104 105, 0, [], [], 10), (jW 1 105 101, 2, [], [], 11)]))) (jS [jC 0 6] .ret)))))))
theorem fn54 : Be Tryz.prog 54 = some (106, [.t 6], ir54) := by kernel_rfl
def ir55 : C := (jS [iU .box 1 3, iJ .mv [.c zS] 4, jC 0 5] (.seq (jS [jF 10 3 9, iU L1 9 10, jK B1 10 5 11] (jI 11 (jS [jF 19 3 12,
 iU L1 12 13, iM 4 13, jC 0 5] .ret))) (jS [iJ (.new (.agg [zI, zU])) [] 6] (.seq (jS [jF 17 3 14, iU L1 14 15, iU .len 15 16, jK B4 16 0 17]
 (jI 17 (.ops [jF 17 3 18, iU L1 18 19, jK (.iaS 2) 19 0 20, iU L2 20 21, jW 2 6 21]))) (jS [iM 23 0, iU L2 6 24, iD (.call 78) 23 24 25, iM 22 25,
 iU (.ext 0) 22 26, iU (.ext 1) 22 27, iM 7 26, iM 8 27] (.seq (jS [iM 28 8, jK B6 28 0 29] (jI 29 (jS [iM 30 8, iJ .mv [.c zS] 4, iM 5 30] .ret)))
 (.seq (jS [jF 10 3 31, iU L1 31 32, jK B1 32 4 33] (jI 33 (jS [iM 34 7, jF 18 3 35, iU L1 35 36, iD (.call 79) 34 36 37, iU (.ext 0) 37 38,
 iU (.ext 1) 37 39, iM 4 38, iM 5 39] .ret))) (jS [iM 40 7, jF 18 3 41, iU L1 41 42, jF 19 3 43, iU L1 43 44, iJ (.call 80) [.t 40, .t 42, .t 44] 45, iU (.ext 0) 45 46,
 iU (.ext 1) 45 47, iM 4 46, iM 5 47] .ret))))))))
theorem fn55 : Be Tryz.prog 55 = some (48, [.t 4, .t 5], ir55) := by kernel_rfl
def ir56 : C := (jS [iU .box 2 5, iJ .mv [.c zN] 6, jC 0 7] (jS [iM 15 0, iU (.call 21) 15 16, iM 8 16] (.seq (jS [iM 17 1, iU .len 17 18, jC 0 19]
 (.block 0 (.loop (jS [iD B3 19 18 20] (.seq (.ite (.t 20) .skip (.exit 0)) (.seq (.block 1 (jS [iD (.iaS 2) 17 19 21, iU L2 21 22, iJ (.new (.agg [zI, zU])) [] 10,
 jW 2 10 22] (jS [iM 24 8, iU L2 10 25, iD (.call 81) 24 25 26, iM 23 26, iU (.ext 0) 23 27, iU (.ext 1) 23 28, iM 11 27, iM 12 28] (.seq (jS [iM 29 12, iU U1 29 30]
 (jI 30 (jS [iJ .mv [.c zN] 6, jC 2 7] .ret))) (.any [40] [(iM 31 8, 0, [40]), (iM 32 11, 0, [40]), (iM 33 8, 0, [40]), (iM 34 11, 0, [40]),
 (iD (.iaS 11) 33 34 35, 1, [40]), (jF 3 35 36, 0, [40]), (iU L8 36 37, 1, [40]), (jF 0 5 38, 0, [40]), (iU L2 38 39, 1, [40]), (iD (.call 25) 37 39 40, 2, [40]),
 (iD (.iaS 11) 31 32 41, 1, []), (jF 3 41 42, 0, []), (jW 8 42 40, 2, [])]))))) (.ops [jK B2 19 1 43, iM 19 43]))))))) (jS [iM 45 8, jF 0 5 46,
 iU L2 46 47, iD (.call 81) 45 47 48, iM 44 48, iU (.ext 0) 44 49, iU (.ext 1) 44 50, iM 13 49, iM 14 50] (.seq (jS [iM 51 14] (jI 51 (jS [iJ .mv [.c zN] 6, jC 11 7]
 .ret))) (jS [iM 52 8, iM 53 13, iU (.ld 11 true) 5 54, iU (.bsl 11) 54 55, iJ (.call 82) [.t 52, .t 53, .t 55] 56, iM 6 56, jC 0 7] .ret))))))
theorem fn56 : Be Tryz.prog 56 = some (57, [.t 6, .t 7], ir56) := by kernel_rfl
def ir57 : C := (jS [iU .box 1 4, jC 0 6, iJ .mv [.c zF] 7] (jS [iM 12 0, iU .len 12 13, iM 8 13] (jS [iM 14 8, jC 0 9, iM 10 14]
 (.seq (.block 0 (.loop (.seq (jS [iM 15 9, iM 16 10, iD B3 15 16 17] (.ite (.t 17) .skip (.exit 0))) (.block 1 (jS [iM 18 9, iM 19 10, iD B2 18 19 20, iU (.cvI .u64) 20 21,
 iJ (.bin .shr) [.t 21, .c (.pv (.i .u64 1))] 22, iU (.cvI .i64) 22 23, iM 11 23] (.seq (.any [30] [(iM 24 2, 0, [30]), (iM 25 0, 0, [30]), (iM 26 11, 0, [30]), (iD (.iaS 15) 25 26 27, 1, [30]),
 (iU (.ld 15 true) 27 28, 1, [30]), (iU L2 4 29, 1, [30]), (iJ .callv [.t 24, .t 28, .t 29] 30, 1, [30]), (jK B3 30 0 31, 0, [])]) (.ite (.t 31) (.ops [iM 32 11, jK B2 32 1 33,
 iM 9 33]) (.ops [iM 34 11, iM 10 34])))))))) (.seq (.any [46] [(iM 35 9, 0, [46]), (iM 36 9, 0, [46]), (iM 37 8, 0, [46]), (iD B3 36 37 38, 0, [46]), (iM 39 38, 0, [46]),
 (jA .mv 2 40 39, 0, [46]), (jA .mv 0 41 39, 0, [46]), (jA .mv 9 42 39, 0, [46]), (iG (.iaS 15) [.t 41, .t 42] 43 39 true, 1, [46]), (jA (.ld 15 true) 43 44 39, 1, [46]),
 (jA L2 4 45 39, 1, [46]), (iG .callv [.t 40, .t 44, .t 45] 46 39 true, 1, [46]), (iG B1 [.t 46, cI 0] 47 39 true, 0, []), (jQ 39 47 48, 0, [46]), (iM 6 35, 0, []),
 (iM 7 48, 0, [])]) .ret)))))
theorem fn57 : Be Tryz.prog 57 = some (49, [.t 6, .t 7], ir57) := by kernel_rfl
def ir58 : C := (jS [iU .box 0 2, iU .box 1 3, jC 0 4] (.seq (.block 0 (jS [jF 0 2 6, iU L2 6 7, iU L2 3 8, iD (.call 59) 7 8 9, iM 5 9]
 (.ite (.t 5) (jS [iJ .mv [.c (.pv (.i .i64 (-1)))] 4] .ret) (jS [iU L2 3 11, jF 0 2 12, iU L2 12 13, iD (.call 59) 11 13 14, iM 10 14]
 (jI 10 (jS [jC 1 4] .ret)))))) (jS [jC 0 4] .ret)))
theorem fn58 : Be Tryz.prog 58 = some (15, [.t 4], ir58) := by kernel_rfl
def ir59 : C := (jS [iU .box 0 2, iU .box 1 3, iJ .mv [.c zF] 4] (.seq (jS [jF 1 2 5, iU L1 5 6, jF 1 3 7, iU L1 7 8, iD B6 6 8 9]
 (jI 9 (jS [jF 1 2 10, iU L1 10 11, jF 1 3 12, iU L1 12 13, iD B3 11 13 14, iM 4 14] .ret))) (jS [jF 0 2 15, iU L1 15 16, jF 0 3 17, iU L1 17 18,
 iD B3 16 18 19, iM 4 19] .ret)))
theorem fn59 : Be Tryz.prog 59 = some (20, [.t 4], ir59) := by kernel_rfl
def ir60 : C := (jS [iU .box 0 1, iJ .mv [.c zF] 2] (jS [jF 10 1 3, iU L1 3 4, jK B1 4 3 5, iM 6 5, jN 10 1 7 6, jB L1 7 8 6,
 iG B1 [.t 8, cI 4] 9 6 false, jP 6 9 10, iM 11 10, jN 10 1 12 11, jB L1 12 13 11, iG B1 [.t 13, cI 5] 14 11 false, jP 11 14 15, iM 2 15]
 .ret))
theorem fn60 : Be Tryz.prog 60 = some (16, [.t 2], ir60) := by kernel_rfl
def ir61 : C := (jS [iU .box 1 3, iJ .mv [.c zS] 4] (jS [iM 13 0, iU L2 3 14, iD (.call 83) 13 14 15, iM 12 15, iU (.ext 0) 12 16, iU (.ext 1) 12 17,
 jE 5, jW 21 5 16, iM 6 17] (.seq (jS [iM 18 6, iU U1 18 19]
 (jI 19 (jS [iJ .mv [.c zS] 4] .ret))) (.seq (jS [jF 10 5 20, iU L1 20 21, jK B1 21 5 22] (jI 22 (jS [jF 19 5 23, iU L1 23 24,
 iM 4 24] .ret))) (jS [iJ .mv [.c zS] 7] (.seq (jS [jF 17 5 25, iU L1 25 26, iU .len 26 27, jK B4 27 0 28] (jI 28 (.ops [iM 29 0, jF 17 5 30,
 iU L1 30 31, jK (.iaS 2) 31 0 32, iU L2 32 33, iD (.call 61) 29 33 34, iM 7 34]))) (.seq (jS [jF 10 5 35, iU L1 35 36, jK B1 36 4 37]
 (jI 37 (jS [iM 39 7, jF 18 5 40, iU L1 40 41, iD (.call 84) 39 41 42, iM 38 42, iU (.ext 0) 38 43, iU (.ext 1) 38 44, iM 8 43, iM 9 44] (jS [iM 45 8, iM 4 45] .ret)))) (jS [iM 47 7, jF 18 5 48, iU L1 48 49, jF 19 5 50, iU L1 50 51, iJ (.call 85) [.t 47, .t 49, .t 51] 52, iM 46 52, iU (.ext 0) 46 53, iU (.ext 1) 46 54, iM 10 53,
 iM 11 54] (jS [iM 55 10, iM 4 55] .ret)))))))))
theorem fn61 : Be Tryz.prog 61 = some (56, [.t 4], ir61) := by kernel_rfl
def ir62 : C := (jS [iU .box 2 5, iJ .mv [.c zN] 6, jC 0 7] (.seq (jS [jC 0 8] (.block 0 (.loop (.seq (jS [iM 16 8, iM 17 1, iU .len 17 18, iD B3 16 18 19]
 (.ite (.t 19) .skip (.exit 0))) (.seq (.block 1 (jS [iM 23 0, iM 24 1, iM 25 8, iD (.iaS 2) 24 25 26, iU L2 26 27, iD (.call 44) 23 27 28, iM 22 28, iU (.ext 0) 22 29, iU (.ext 1) 22 30,
 iM 9 29, iM 10 30] (jS [iM 31 10, jK B6 31 0 32, iM 33 32, jB .mv 1 34 33, jB .mv 8 35 33, iG (.iaS 2) [.t 34, .t 35] 36 33 false, jN 0 36 37 33,
 jB L1 37 38 33, iG B1 [.t 38, cI 0] 39 33 false, jB .mv 39 40 33, jA .mv 1 41 40, jA .mv 8 42 40, iG (.iaS 2) [.t 41, .t 42] 43 40 true, jL 1 43 44 40,
 jA L1 44 45 40, iG B1 [.t 45, .c zU] 46 40 true, iG .pick [.t 40, .t 46, .c zF] 47 33 false, jB .mv 47 48 33, jA .mv 0 49 48, jA .mv 1 50 48, jA .mv 8 51 48,
 iG (.iaS 2) [.t 50, .t 51] 52 48 true, jA L2 52 53 48, iG (.call 86) [.t 49, .t 53] 54 48 true, jA U1 54 55 48, iG .pick [.t 48, .t 55, .c zF] 56 33 false,
 jP 33 56 57] (jI 57 (jS [iJ .mv [.c zN] 6, jC 2 7] .ret))))) (.ops [iM 20 8, jK B2 20 1 21, iM 8 21])))))) (.seq (jS [iM 58 0,
 jF 0 5 59, iU L2 59 60, iD (.call 86) 58 60 61] (jI 61 (jS [iJ .mv [.c zN] 6, jC 11 7] .ret))) (jS [iJ .mv [.c zN] 11] (jS [iJ .mv [.c zF] 12]
 (.seq (jS [jC 0 13] (.block 2 (.loop (.seq (jS [iM 62 13, iM 63 0, iU .len 63 64, iD B3 62 64 65] (.ite (.t 65) .skip (.exit 2)))
 (.seq (.block 3 (.seq (.seq (.any [78] [(iM 68 12, 0, [78]), (iU U1 68 69, 0, [78]), (iM 70 69, 0, [78]), (jL 0 5 71 70, 0, [78]), (jA L2 71 72 70, 1, [78]),
 (jA .mv 0 73 70, 0, [78]), (jA .mv 13 74 70, 0, [78]), (iG (.iaS 11) [.t 73, .t 74] 75 70 true, 1, [78]), (jL 0 75 76 70, 0, [78]), (jA L2 76 77 70, 1, [78]),
 (iG (.call 16) [.t 72, .t 77] 78 70 true, 3, [78]), (jQ 70 78 79, 0, [])]) (jI 79 (jS [iM 80 11, iU (.ld 11 true) 5 81, iU (.bsl 11) 81 82,
 iD (.app 11 64) 80 82 83, iM 11 83] (.ops [iJ .mv [.c zT] 12])))) (jS [iM 84 0, iM 85 13, iD (.iaS 11) 84 85 86, iU (.ld 11 true) 86 87, iJ (.new (.agg [zI, zU, zS, zV])) [] 14,
 jW 11 14 87] (.seq (jS [jC 0 15] (.block 4 (.loop (.seq (jS [iM 88 15, iM 89 1, iU .len 89 90, iD B3 88 90 91] (.ite (.t 91) .skip (.exit 4)))
 (.seq (.block 5 (.seq (.any [] [(iM 94 1, 0, []), (iM 95 15, 0, []), (iD (.iaS 2) 94 95 96, 1, []), (iU L2 96 97, 1, []), (jF 0 14 98, 0, []), (iU L2 98 99, 1, []),
 (iD (.eqv false [.int .i64, .int .u32]) 97 99 100, 0, [])]) (jI 100 (.ops [jF 3 14 101, iU L8 101 102, jF 0 5 103, iU L2 103 104, iD (.call 18) 102 104 105, jF 3 14 106,
 jW 8 106 105])))) (.ops [iM 92 15, jK B2 92 1 93, iM 15 93])))))) (.ops [iM 107 11, iU (.ld 11 true) 14 108, iU (.bsl 11) 108 109, iD (.app 11 64) 107 109 110,
 iM 11 110]))))) (.ops [iM 66 13, jK B2 66 1 67, iM 13 67])))))) (.seq (jS [iM 111 12, iU U1 111 112] (jI 112 (.ops [iM 113 11, iU (.ld 11 true) 5 114, iU (.bsl 11) 114 115,
 iD (.app 11 64) 113 115 116, iM 11 116]))) (jS [iM 117 11, iM 6 117, jC 0 7] .ret))))))))
theorem fn62 : Be Tryz.prog 62 = some (118, [.t 6, .t 7], ir62) := by kernel_rfl
def ir63 : C := (jS [iU .box 0 1, iJ .mv [.c zF] 2] (jS [jF 0 1 3, iU L1 3 4, jK B1 4 0 5, iM 6 5, jL 1 1 7 6, jA L1 7 8 6,
 iG B1 [.t 8, .c zU] 9 6 true, jQ 6 9 10, iM 2 10] .ret))
theorem fn63 : Be Tryz.prog 63 = some (11, [.t 2], ir63) := by kernel_rfl
def ir64 : C := (jS [iU .box 1 3, iJ .mv [.c zF] 4] (.seq (jS [jC 0 5] (.block 0 (.loop (.seq (jS [iM 6 5, iM 7 0, iU .len 7 8, iD B3 6 8 9] (.ite (.t 9) .skip
 (.exit 0))) (.seq (.block 1 (.seq (.any [17, 32] [(iU L8 3 12, 1, [17, 32]), (iM 13 0, 0, [17, 32]), (iM 14 5, 0, [17, 32]), (iD (.iaS 2) 13 14 15, 1, [17, 32]), (iU L2 15 16, 1, [17, 32]),
 (iD (.call 40) 12 16 17, 3, [17, 32]), (iU U1 17 18, 0, [32]), (iM 19 18, 0, [32]), (jB .mv 5 20 19, 0, [17, 32]), (iG B4 [.t 20, cI 0] 21 19 false, 0, [17, 32]),
 (jB .mv 21 22 19, 0, [17, 32]), (jA .mv 0 23 22, 0, [17, 32]), (jA .mv 5 24 22, 0, [17, 32]), (iG B5 [.t 24, cI 1] 25 22 true, 0, [17, 32]),
 (iG (.iaS 2) [.t 23, .t 25] 26 22 true, 1, [17, 32]), (jA L2 26 27 22, 1, [17, 32]), (jA .mv 0 28 22, 0, [17, 32]), (jA .mv 5 29 22, 0, [17, 32]),
 (iG (.iaS 2) [.t 28, .t 29] 30 22 true, 1, [17, 32]), (jA L2 30 31 22, 1, [17, 32]), (iG (.call 16) [.t 27, .t 31] 32 22 true, 3, [17, 32]), (jA U1 32 33 22, 0, [17]),
 (iG .pick [.t 22, .t 33, .c zF] 34 19 false, 0, [17, 32]), (jP 19 34 35, 0, [17, 32])]) (jI 35 (jS [iJ .mv [.c zF] 4] .ret)))) (.ops [iM 10 5,
 jK B2 10 1 11, iM 5 11])))))) (jS [iJ .mv [.c zT] 4] .ret)))
theorem fn64 : Be Tryz.prog 64 = some (36, [.t 4], ir64) := by kernel_rfl
def ir65 : C := (jS [iJ .mv [.c zF] 2] (.seq (jS [iM 8 0, iJ B1 [.t 8, .c zS] 9, iM 10 9, jB .mv 0 11 10, jB .lenS 11 12 10, iG B4 [.t 12, cI 12] 13 10 false,
 jP 10 13 14, iM 15 14, jB .mv 0 16 15, iG B1 [.t 16, .c (.pv (.s [46]))] 17 15 false, jP 15 17 18, iM 19 18, jB .mv 0 20 19,
 iG B1 [.t 20, .c (.pv (.s [46, 46]))] 21 19 false, jP 19 21 22] (jI 22 (jS [iJ .mv [.c zF] 2] .ret))) (.seq (jS [jC 0 3]
 (.block 0 (.loop (.seq (jS [iM 23 3, iM 24 0, iU .lenS 24 25, iD B3 23 25 26] (.ite (.t 26) .skip (.exit 0))) (.seq (.block 1 (jS [iM 29 0, iM 30 3, iD .ixS 29 30 31, iM 4 31]
 (jS [iM 32 4, iJ B8 [.t 32, .c (.pv (.i .u8 97))] 33, iM 34 33, jA .mv 4 35 34, iG B7 [.t 35, .c (.pv (.i .u8 122))] 36 34 true, jQ 34 36 37, iM 38 4,
 iJ B8 [.t 38, .c (.pv (.i .u8 65))] 39, iM 40 39, jA .mv 4 41 40, iG B7 [.t 41, .c (.pv (.i .u8 90))] 42 40 true, jQ 40 42 43, iM 44 4,
 iJ B8 [.t 44, .c (.pv (.i .u8 48))] 45, iM 46 45, jA .mv 4 47 46, iG B7 [.t 47, .c (.pv (.i .u8 57))] 48 46 true, jQ 46 48 49, iM 5 37, iM 6 43, iM 7 49]
 (jS [iM 50 5, iU U1 50 51, iM 52 51, jA .mv 6 53 52, jA U1 53 54 52, jQ 52 54 55, iM 56 55, jA .mv 7 57 56, jA U1 57 58 56,
 jQ 56 58 59, iM 60 59, jA .mv 4 61 60, iG B6 [.t 61, .c (.pv (.i .u8 46))] 62 60 true, jQ 60 62 63, iM 64 63, jA .mv 4 65 64,
 iG B6 [.t 65, .c (.pv (.i .u8 95))] 66 64 true, jQ 64 66 67, iM 68 67, jA .mv 4 69 68, iG B6 [.t 69, .c (.pv (.i .u8 45))] 70 68 true, jQ 68 70 71]
 (jI 71 (jS [iJ .mv [.c zF] 2] .ret)))))) (.ops [iM 27 3, jK B2 27 1 28, iM 3 28])))))) (jS [iJ .mv [.c zT] 2] .ret))))
theorem fn65 : Be Tryz.prog 65 = some (72, [.t 2], ir65) := by kernel_rfl
def ir66 : C := (jS [iU .box 0 8, iJ .mv [.c zF] 16] (jS [iM 17 1, iM 18 17, jN 11 8 19 18, jB L2 19 20 18, jB (.call 63) 20 21 18,
 jP 18 21 22, iM 23 22, jA .mv 2 24 23, jA .mv 24 25 23, jN 13 8 26 25, jB L2 26 27 25, jB (.call 63) 27 28 25, jB .mv 28 29 25,
 jL 15 8 30 29, jA L1 30 31 29, iG B1 [.t 31, .c zS] 32 29 true, iG .pick [.t 29, .t 32, .c zF] 33 25 false, iG .pick [.t 25, .c zT, .t 33] 34 23 true,
 jQ 23 34 35, iM 36 35, jA .mv 3 37 36, jA .mv 37 38 36, jN 16 8 39 38, jB L1 39 40 38, jB .len 40 41 38, iG B1 [.t 41, cI 0] 42 38 false,
 iG .pick [.t 38, .c zT, .t 42] 43 36 true, jQ 36 43 44, iM 45 44, jA .mv 4 46 45, jA .mv 46 47 45, jN 17 8 48 47, jB L1 48 49 47,
 jB .len 49 50 47, iG B1 [.t 50, cI 0] 51 47 false, iG .pick [.t 47, .c zT, .t 51] 52 45 true, jQ 45 52 53, iM 54 53, jA .mv 5 55 54, jA .mv 55 56 54,
 jN 18 8 57 56, jB L1 57 58 56, iG B1 [.t 58, cI 0] 59 56 false, iG .pick [.t 56, .c zT, .t 59] 60 54 true, jQ 54 60 61, iM 62 61, jA .mv 6 63 62,
 jA .mv 63 64 62, jN 19 8 65 64, jB L1 65 66 64, iG B1 [.t 66, .c zS] 67 64 false, iG .pick [.t 64, .c zT, .t 67] 68 62 true, jQ 62 68 69, iM 70 69,
 jA .mv 7 71 70, jA .mv 71 72 70, jN 20 8 73 72, jB L1 73 74 72, iG B1 [.t 74, cI 0] 75 72 false, iG .pick [.t 72, .c zT, .t 75] 76 70 true,
 jQ 70 76 77, iM 16 77] .ret))
theorem fn66 : Be Tryz.prog 66 = some (78, [.t 16], ir66) := by kernel_rfl
def ir67 : C := (jS [iU .box 0 2, iU .box 1 3, jC 0 4] (jS [iJ .mv [.c zF] 5, iJ .mv [.c zF] 6] (.seq (jS [jC 0 7]
 (.block 0 (.loop (.seq (jS [iM 8 7, jK B3 8 8 9] (.ite (.t 9) .skip (.exit 0))) (.seq (.block 1 (.seq (.any [] [(iM 12 5, 0, []), (iM 13 12, 0, []), (jB .mv 7 14 13, 0, []),
 (iG (.iaA 8 1) [.t 2, .t 14] 15 13 false, 0, []), (jB L1 15 16 13, 1, []), (jB .mv 7 17 13, 0, []), (iG (.iaA 8 1) [.t 3, .t 17] 18 13 false, 0, []), (jB L1 18 19 13, 1, []),
 (iG B3 [.t 16, .t 19] 20 13 false, 0, []), (jP 13 20 21, 0, []), (iM 5 21, 0, [])]) (.any [] [(iM 22 6, 0, []), (iM 23 22, 0, []), (jB .mv 7 24 23, 0, []),
 (iG (.iaA 8 1) [.t 2, .t 24] 25 23 false, 0, []), (jB L1 25 26 23, 1, []), (jB .mv 7 27 23, 0, []), (iG (.iaA 8 1) [.t 3, .t 27] 28 23 false, 0, []), (jB L1 28 29 23, 1, []),
 (iG B4 [.t 26, .t 29] 30 23 false, 0, []), (jP 23 30 31, 0, []), (iM 6 31, 0, [])]))) (.ops [iM 10 7, jK B2 10 1 11, iM 7 11]))))))
 (.seq (.block 2 (jS [iM 33 5, iM 34 33, jA .mv 6 35 34, jQ 34 35 36, iM 32 36] (.ite (.t 32) (jS [jC 2 4] .ret) (jS [iM 38 5, iM 37 38]
 (.ite (.t 37) (jS [iJ .mv [.c (.pv (.i .i64 (-1)))] 4] .ret) (jS [iM 40 6, iM 39 40] (jI 39 (jS [jC 1 4] .ret)))))))) (jS [jC 0 4]
 .ret)))))
theorem fn67 : Be Tryz.prog 67 = some (41, [.t 4], ir67) := by kernel_rfl
def ir68 : C := (jS [iU .box 0 1, iJ .mv [.c zF] 2] (jS [jF 0 1 3, iU L1 3 4, jK B1 4 0 5, iM 6 5, jL 1 1 7 6, jA L1 7 8 6,
 iG B1 [.t 8, .c zU] 9 6 true, jQ 6 9 10, iM 2 10] .ret))
theorem fn68 : Be Tryz.prog 68 = some (11, [.t 2], ir68) := by kernel_rfl
def ir69 : C := (jS [iJ .mv [.c zF] 2] (jS [iM 3 0, iJ B8 [.t 3, .c (.pv (.i .i32 97))] 4, iM 5 4, jA .mv 0 6 5, iG B7 [.t 6, .c (.pv (.i .i32 122))] 7 5 true,
 jQ 5 7 8, iM 9 8, jB .mv 0 10 9, iG B8 [.t 10, .c (.pv (.i .i32 65))] 11 9 false, jB .mv 11 12 9, jA .mv 0 13 12,
 iG B7 [.t 13, .c (.pv (.i .i32 90))] 14 12 true, iG .pick [.t 12, .t 14, .c zF] 15 9 false, jP 9 15 16, iM 2 16] .ret))
theorem fn69 : Be Tryz.prog 69 = some (17, [.t 2], ir69) := by kernel_rfl
def ir70 : C := (jS [iJ .mv [.c zF] 4] (jS [iM 5 0, iM 6 1, iD (.call 87) 5 6 7, jK B8 7 0 8, iM 4 8] .ret))
theorem fn70 : Be Tryz.prog 70 = some (9, [.t 4], ir70) := by kernel_rfl
def ir73 : C := (jS [iU .box 1 3, jC 0 4, iJ .mv [.c zF] 5] (jS [iM 6 0, iU L2 3 7, iJ (.call 89) [.t 6, .t 7, .c (.fn (.func 90) [])] 8, iU (.ext 0) 8 9, iU (.ext 1) 8 10,
 iM 4 9, iM 5 10] .ret))
theorem fn73 : Be Tryz.prog 73 = some (11, [.t 4, .t 5], ir73) := by kernel_rfl
def ir74 : C := (jS [iJ .mv [.c zN] 6] (jS [iM 10 0, iM 11 1, iD (.slv 15 true false) 10 11 12] (jS [iM 13 2, iU .len 13 14, iM 7 14] (.seq (jS [iM 15 7,
 jK B1 15 0 16] (jI 16 (jS [iM 17 0, iM 6 17] .ret))) (jS [iM 18 0, iU .len 18 19, iM 8 19] (.seq (jS [iM 20 1, iM 21 8, iD B1 20 21 22]
 (jI 22 (jS [iM 23 0, iM 24 2, iD (.app 15 96) 23 24 25, iM 6 25] .ret))) (.seq (jS [iM 26 8, iM 27 7, iD B2 26 27 28, iM 29 0, iU .cap 29 30, iD B4 28 30 31]
 (jI 31 (jS [iM 32 0, iM 33 1, iD (.slv 15 false true) 32 33 34, iM 35 8, iM 36 7, iD B2 35 36 37, iM 38 1, iD B5 37 38 39,
 iD (.apz 15 96 [.i .i64 0, .i .u32 0, .i .i64 0, .i .u32 0, .s [], .i .i64 0, .i .u32 0, .i .u32 0, .i .u32 0, .i .u32 0, .i .u32 0, .i .u32 0, .i .u32 0, .i .u32 0, .i .u32 0]) 34 39 40, iM 9 40]
 (jS [iM 41 9, iM 42 1, iD (.slv 15 true false) 41 42 43, iM 44 2, iD (.cpy 15) 43 44 45] (.seq (.any [] [(iM 46 9, 0, []), (iM 47 1, 0, []), (iM 48 7, 0, []), (iD B2 47 48 49, 0, []),
 (iD (.slv 15 true false) 46 49 50, 1, []), (iM 51 0, 0, []), (iM 52 1, 0, []), (iD (.slv 15 true false) 51 52 53, 1, []), (iD (.cpy 15) 50 53 54, 2, [])]) (jS [iM 55 9, iM 6 55] .ret)))))) (jS [iM 56 0, iM 57 8, iM 58 7, iD B2 57 58 59, iD (.slx 15) 56 59 60, iM 0 60] (.seq (jS [iM 61 2, iM 62 0, iM 63 1, iM 64 7, iD B2 63 64 65,
 iD (.slv 15 true false) 62 65 66, iD (.call 92) 61 66 67, iU U1 67 68] (jI 68 (.seq (.any [] [(iM 69 0, 0, []), (iM 70 1, 0, []), (iM 71 7, 0, []), (iD B2 70 71 72, 0, []),
 (iD (.slv 15 true false) 69 72 73, 1, []), (iM 74 0, 0, []), (iM 75 1, 0, []), (iD (.slv 15 true false) 74 75 76, 1, []), (iD (.cpy 15) 73 76 77, 2, [])]) (jS [iM 78 0, iM 79 1,
 iD (.slv 15 true false) 78 79 80, iM 81 2, iD (.cpy 15) 80 81 82] (jS [iM 83 0, iM 6 83] .ret))))) (jS [iM 84 0, iM 85 8, iD (.slv 15 true false) 84 85 86, iM 87 2,
 iD (.cpy 15) 86 87 88] (jS [iM 89 0, iM 90 1, iD (.slc 15 true false false) 89 90 91, iM 92 7, iD (.call 93) 91 92 93] (jS [iM 94 0, iM 6 94] .ret))))))))))))
theorem fn74 : Be Tryz.prog 74 = some (95, [.t 6], ir74) := by kernel_rfl
def ir75 : C := (jS [iU .box 1 3, iJ .mv [.c zF] 4] (jS [iM 5 0, iU L2 3 6, iD (.call 94) 5 6 7, jK B8 7 0 8, iM 4 8] .ret))
theorem fn75 : Be Tryz.prog 75 = some (9, [.t 4], ir75) := by kernel_rfl
def ir76 : C := (jS [iU .box 1 4, iU .box 2 5, iJ .mv [.c zN] 6] (jS [iM 10 0, iU (.call 20) 10 11, iM 7 11] (.seq (jS [iM 13 0, iU L2 4 14, iD (.call 73) 13 14 15, iM 12 15,
 iU (.ext 0) 12 16, iU (.ext 1) 12 17, iM 8 16, iM 9 17] (jS [iM 18 9] (jI 18 (.any [27] [(iM 19 7, 0, [27]), (iM 20 8, 0, [27]), (iM 21 7, 0, [27]), (iM 22 8, 0, [27]),
 (iD (.iaS 15) 21 22 23, 1, [27]), (jF 7 23 24, 0, [27]), (iU L8 24 25, 1, [27]), (iU L2 5 26, 1, [27]), (iD (.call 25) 25 26 27, 2, [27]), (iD (.iaS 15) 19 20 28, 1, []),
 (jF 7 28 29, 0, []), (jW 8 29 27, 2, [])])))) (jS [iM 30 7, iM 6 30] .ret))))
theorem fn76 : Be Tryz.prog 76 = some (31, [.t 6], ir76) := by kernel_rfl
def ir77 : C := (jS [iU .box 0 2, iU .box 1 3, iJ (.new zV) [] 4] (.seq (jS [iU L8 3 7, jC 0 8] (.block 0 (.loop (jS [jK B3 8 8 9] (.seq (.ite (.t 9) .skip
 (.exit 0)) (.seq (.block 1 (jS [iM 10 8, iD (.ixA 8 1 false) 7 8 11, iM 5 10, iM 6 11] (.ops [iM 12 5, iM 13 5, iD (.iaA 8 1) 2 13 14, iU L1 14 15, iM 16 6, iD .mx 15 16 17,
 iD (.iaA 8 1) 2 12 18, jW 1 18 17]))) (.ops [jK B2 8 1 19, iM 8 19]))))))) (jS [iU L8 2 20, jW 8 4 20] .ret)))
theorem fn77 : Be Tryz.prog 77 = some (21, [.c 4 8 true], ir77) := by kernel_rfl
def ir78 : C := (jS [iU .box 1 3, iJ .mv [.c zS] 4, jC 0 5] (.seq (jS [iU L2 3 8, iJ (.bld [1, 1]) [cI 0, .c zU] 9, iD (.eqv false [.int .i64, .int .u32]) 8 9 10]
 (jI 10 (jS [iJ .mv [.c zS] 4, jC 0 5] .ret))) (jS [iM 12 0, iU L2 3 13, iD (.call 81) 12 13 14, iM 11 14, iU (.ext 0) 11 15, iU (.ext 1) 11 16, iM 6 15,
 iM 7 16] (.seq (jS [iM 17 7, iU U1 17 18] (jI 18 (jS [iJ .mv [.c zS] 4, jC 2 5] .ret))) (jS [iM 19 0, iM 20 6, iD (.iaS 11) 19 20 21,
 jF 2 21 22, iU L1 22 23, iM 4 23, jC 0 5] .ret)))))
theorem fn78 : Be Tryz.prog 78 = some (24, [.t 4, .t 5], ir78) := by kernel_rfl
def ir79 : C := (jS [iJ .mv [.c zS] 4, jC 0 5] (.seq (jS [iM 6 1, jK B3 6 0 7, iM 8 7, jB .mv 1 9 8, iG B4 [.t 9, cI 200] 10 8 false,
 jP 8 10 11] (jI 11 (jS [iJ .mv [.c zS] 4, jC 4 5] .ret))) (.seq (jS [iM 12 1, iM 13 0, iU .lenS 13 14, iD B3 12 14 15]
 (jI 15 (jS [iM 16 0, iM 17 1, iD (.sls false true) 16 17 18, iM 4 18, jC 0 5] .ret))) (jS [iM 19 0, iM 20 1, iM 21 0, iU .lenS 21 22, iD B5 20 22 23,
 iD (.mks [.i .u8 0] 1) 23 23 24, iU .b2s 24 25, iD B2 19 25 26, iM 4 26, jC 0 5] .ret))))
theorem fn79 : Be Tryz.prog 79 = some (27, [.t 4, .t 5], ir79) := by kernel_rfl
def ir80 : C := (jS [iJ .mv [.c zS] 6, jC 0 7] (.seq (jS [iM 9 1, jK B3 9 0 10, iM 11 10, jB .mv 1 12 11, iG B4 [.t 12, cI 200] 13 11 false,
 jP 11 13 14, iM 15 14, jB .mv 0 16 15, jB .lenS 16 17 15, iG B4 [.t 17, cI 200] 18 15 false, jP 15 18 19, iM 20 19, jB .mv 2 21 20,
 jB .lenS 21 22 20, jB .mv 1 23 20, iG B5 [cI 200, .t 23] 24 20 false, iG B4 [.t 22, .t 24] 25 20 false, jP 20 25 26] (jI 26 (jS [iJ .mv [.c zS] 6,
 jC 4 7] .ret))) (jS [iM 27 0, iU .s2b 27 28, iM 8 28] (.seq (.block 0 (.loop (.seq (jS [iM 29 8, iU .len 29 30, iM 31 1, iM 32 2, iU .lenS 32 33, iD B2 31 33 34,
 iD B3 30 34 35] (.ite (.t 35) .skip (.exit 0))) (.block 1 (.ops [iM 36 8, iJ (.bsl 1) [.c (.pv (.i .u8 0))] 37, iD (.app 1 1) 36 37 38, iM 8 38]))))) (jS [iM 39 8, iM 40 1,
 iD (.slv 1 true false) 39 40 41, iM 42 2, iD (.cpy 1) 41 42 43] (jS [iM 44 8, iU .b2s 44 45, iM 6 45, jC 0 7] .ret))))))
theorem fn80 : Be Tryz.prog 80 = some (46, [.t 6, .t 7], ir80) := by kernel_rfl
def ir81 : C := (jS [iU .box 1 3, jC 0 4, iJ .mv [.c zF] 5] (.seq (jS [iM 8 0, iU .len 8 9, jC 0 10] (.block 0 (.loop (jS [iD B3 10 9 11]
 (.seq (.ite (.t 11) .skip (.exit 0)) (.seq (.block 1 (jS [iM 12 10, iD (.iaS 11) 8 10 13, iU (.ld 11 true) 13 14, iJ (.new (.agg [zI, zU, zS, zV])) [] 7, iM 6 12, jW 11 7 14]
 (.seq (jS [jF 0 7 15, iU L2 15 16, iU L2 3 17, iD (.eqv false [.int .i64, .int .u32]) 16 17 18] (jI 18 (jS [iM 19 6, iM 4 19, iJ .mv [.c zT] 5] .ret)))
 (jS [iU L2 3 20, jF 0 7 21, iU L2 21 22, iD (.call 59) 20 22 23] (jI 23 (jS [iM 24 6, iM 4 24, iJ .mv [.c zF] 5] .ret)))))) (.ops [jK B2 10 1 25,
 iM 10 25]))))))) (jS [iM 26 0, iU .len 26 27, iM 4 27, iJ .mv [.c zF] 5] .ret)))
theorem fn81 : Be Tryz.prog 81 = some (28, [.t 4, .t 5], ir81) := by kernel_rfl
def ir82 : C := (jS [iJ .mv [.c zN] 6] (jS [iM 10 0, iM 11 1, iD (.slv 11 true false) 10 11 12] (jS [iM 13 2, iU .len 13 14, iM 7 14] (.seq (jS [iM 15 7,
 jK B1 15 0 16] (jI 16 (jS [iM 17 0, iM 6 17] .ret))) (jS [iM 18 0, iU .len 18 19, iM 8 19] (.seq (jS [iM 20 1, iM 21 8, iD B1 20 21 22]
 (jI 22 (jS [iM 23 0, iM 24 2, iD (.app 11 64) 23 24 25, iM 6 25] .ret))) (.seq (jS [iM 26 8, iM 27 7, iD B2 26 27 28, iM 29 0, iU .cap 29 30, iD B4 28 30 31]
 (jI 31 (jS [iM 32 0, iM 33 1, iD (.slv 11 false true) 32 33 34, iM 35 8, iM 36 7, iD B2 35 36 37, iM 38 1, iD B5 37 38 39,
 iD (.apz 11 64 [.i .i64 0, .i .u32 0, .s [], .i .u32 0, .i .u32 0, .i .u32 0, .i .u32 0, .i .u32 0, .i .u32 0, .i .u32 0, .i .u32 0]) 34 39 40, iM 9 40] (jS [iM 41 9, iM 42 1,
 iD (.slv 11 true false) 41 42 43, iM 44 2, iD (.cpy 11) 43 44 45] (.seq (.any [] [(iM 46 9, 0, []), (iM 47 1, 0, []), (iM 48 7, 0, []), (iD B2 47 48 49, 0, []),
 (iD (.slv 11 true false) 46 49 50, 1, []), (iM 51 0, 0, []), (iM 52 1, 0, []), (iD (.slv 11 true false) 51 52 53, 1, []), (iD (.cpy 11) 50 53 54, 2, [])]) (jS [iM 55 9, iM 6 55] .ret)))))) (jS [iM 56 0, iM 57 8, iM 58 7, iD B2 57 58 59, iD (.slx 11) 56 59 60, iM 0 60] (.seq (jS [iM 61 2, iM 62 0, iM 63 1, iM 64 7, iD B2 63 64 65,
 iD (.slv 11 true false) 62 65 66, iD (.call 95) 61 66 67, iU U1 67 68] (jI 68 (.seq (.any [] [(iM 69 0, 0, []), (iM 70 1, 0, []), (iM 71 7, 0, []), (iD B2 70 71 72, 0, []),
 (iD (.slv 11 true false) 69 72 73, 1, []), (iM 74 0, 0, []), (iM 75 1, 0, []), (iD (.slv 11 true false) 74 75 76, 1, []), (iD (.cpy 11) 73 76 77, 2, [])]) (jS [iM 78 0, iM 79 1,
 iD (.slv 11 true false) 78 79 80, iM 81 2, iD (.cpy 11) 80 81 82] (jS [iM 83 0, iM 6 83] .ret))))) (jS [iM 84 0, iM 85 8, iD (.slv 11 true false) 84 85 86, iM 87 2,
 iD (.cpy 11) 86 87 88] (jS [iM 89 0, iM 90 1, iD (.slc 11 true false false) 89 90 91, iM 92 7, iD (.call 96) 91 92 93] (jS [iM 94 0, iM 6 94] .ret))))))))))))
theorem fn82 : Be Tryz.prog 82 = some (95, [.t 6], ir82) := by kernel_rfl
def ir83 : C := (jS [iU .box 1 3, jE 4, iJ .mv [.c zF] 5] (.seq (jS [jC 0 6]
 (.block 0 (.loop (.seq (jS [iM 7 6, iM 8 0, iU .len 8 9, iD B3 7 9 10] (.ite (.t 10) .skip (.exit 0))) (.seq (.block 1 (.seq (.any [] [(iM 13 0, 0, []), (iM 14 6, 0, []),
 (iD (.iaS 21) 13 14 15, 1, []), (jF 0 15 16, 0, []), (iU L2 16 17, 1, []), (iU L2 3 18, 1, []), (iD (.eqv false [.int .i64, .int .u32]) 17 18 19, 0, [])]) (jI 19 (jS [iM 20 0,
 iM 21 6, iD (.iaS 21) 20 21 22, iU (.ld 21 true) 22 23, jW 21 4 23, iJ .mv [.c zT] 5] .ret)))) (.ops [iM 11 6, jK B2 11 1 12, iM 6 12]))))))
 (jS [iJ (.bld [2, 8, 1, 2, 2, 1, 1, 1, 1, 1, 1]) [.c (.agg [zI, zU]), .c zV, cI 0, .c (.agg [zI, zU]), .c (.agg [zI, zU]), .c zS, .c zN, .c zN, cI 0, .c zS, cI 0] 24,
 jW 21 4 24, iJ .mv [.c zF] 5] .ret)))
theorem fn83 : Be Tryz.prog 83 = some (25, [.c 4 21 true, .t 5], ir83) := by kernel_rfl
def ir84 : C := (jS [iJ .mv [.c zS] 4, jC 0 5] (.seq (jS [iM 6 1, jK B3 6 0 7, iM 8 7, jB .mv 1 9 8, iG B4 [.t 9, cI 200] 10 8 false,
 jP 8 10 11] (jI 11 (jS [iJ .mv [.c zS] 4, jC 4 5] .ret))) (jS [iM 12 0, iM 13 1, iM 14 0, iU .lenS 14 15, iD B5 13 15 16,
 iU (.call 97) 16 17, iD B2 12 17 18, iM 0 18] (jS [iM 19 0, iM 20 1, iD (.sls false true) 19 20 21, iM 4 21, jC 0 5] .ret))))
theorem fn84 : Be Tryz.prog 84 = some (22, [.t 4, .t 5], ir84) := by kernel_rfl
def ir85 : C := (jS [iJ .mv [.c zS] 6, jC 0 7] (.seq (jS [iM 8 1, jK B3 8 0 9, iM 10 9, jB .mv 1 11 10, iG B4 [.t 11, cI 200] 12 10 false,
 jP 10 12 13, iM 14 13, jB .mv 0 15 14, jB .lenS 15 16 14, iG B4 [.t 16, cI 200] 17 14 false, jP 14 17 18, iM 19 18, jB .mv 1 20 19,
 jB .mv 2 21 19, jB .lenS 21 22 19, iG B2 [.t 20, .t 22] 23 19 false, iG B4 [.t 23, cI 200] 24 19 false, jP 19 24 25] (jI 25 (jS [iJ .mv [.c zS] 6,
 jC 4 7] .ret))) (jS [iM 26 0, iM 27 1, iM 28 2, iU .lenS 28 29, iD B2 27 29 30, iM 31 0, iU .lenS 31 32, iD B5 30 32 33, iU (.call 97) 33 34, iD B2 26 34 35, iM 0 35]
 (.seq (.any [] [(iM 36 0, 0, []), (iM 37 1, 0, []), (iD (.sls false true) 36 37 38, 0, []), (iM 39 2, 0, []), (iD B2 38 39 40, 0, []), (iM 41 0, 0, []), (iM 42 1, 0, []), (iM 43 2, 0, []),
 (iU .lenS 43 44, 0, []), (iD B2 42 44 45, 0, []), (iD (.sls true false) 41 45 46, 0, []), (iD B2 40 46 47, 0, []), (iM 6 47, 0, []), (jC 0 7, 0, [])]) .ret))))
theorem fn85 : Be Tryz.prog 85 = some (48, [.t 6, .t 7], ir85) := by kernel_rfl
def ir86 : C := (jS [iU .box 1 3, iJ .mv [.c zF] 4] (.seq (jS [jC 0 5] (.block 0 (.loop (.seq (jS [iM 6 5, iM 7 0, iU .len 7 8, iD B3 6 8 9] (.ite (.t 9) .skip
 (.exit 0))) (.seq (.block 1 (.seq (.any [] [(iM 12 0, 0, []), (iM 13 5, 0, []), (iD (.iaS 11) 12 13 14, 1, []), (jF 0 14 15, 0, []), (iU L2 15 16, 1, []), (iU L2 3 17, 1, []),
 (iD (.eqv false [.int .i64, .int .u32]) 16 17 18, 0, [])]) (jI 18 (jS [iJ .mv [.c zT] 4] .ret)))) (.ops [iM 10 5, jK B2 10 1 11, iM 5 11]))))))
 (jS [iJ .mv [.c zF] 4] .ret)))
theorem fn86 : Be Tryz.prog 86 = some (19, [.t 4], ir86) := by kernel_rfl
def ir87 : C := (jS [jC 0 4] (.block 0 (jS [iM 161 1, iJ B7 [.c (.pv (.i .i32 0)), .t 161] 162, iM 163 162, jA .mv 1 164 163,
 iG B3 [.t 164, .c (.pv (.i .i32 128))] 165 163 true, jQ 163 165 166, iM 160 166] (.ite (.t 160) (jS [iM 167 0, iM 168 1, iU (.cvI .u8) 168 169,
 iD (.call 98) 167 169 170, iM 4 170] .ret) (jS [iM 172 1, iJ B1 [.t 172, .c (.pv (.i .i32 65533))] 173, iM 171 173] (.ite (.t 171) (.seq (jS [iM 174 0, iU .rgs 174 175]
 (.block 9 (.loop (jS [iU .nxs 175 176, iU (.ext 0) 176 177] (.seq (.ite (.t 177) .skip (.exit 9)) (.block 10 (jS [iU (.ext 1) 176 178, iU (.ext 2) 176 179, iM 5 178, iM 6 179]
 (jS [iM 180 6, iJ B1 [.t 180, .c (.pv (.i .i32 65533))] 181] (jI 181 (jS [iM 182 5, iM 4 182] .ret)))))))))) (jS [iJ .mv [.c (.pv (.i .i64 (-1)))] 4] .ret))
 (jS [iM 184 1, iU (.call 99) 184 185, iU U1 185 186, iM 183 186] (.ite (.t 183) (jS [iJ .mv [.c (.pv (.i .i64 (-1)))] 4] .ret) (jS [iM 17 1, iU .r2s 17 18, iM 7 18]
 (jS [iM 19 7, iU .lenS 19 20, jK B5 20 1 21, iM 8 21] (jS [iM 22 8, iM 9 22] (jS [jC 0 10] (.seq (.block 1 (.loop (.seq (jS [iM 23 9, iM 24 0,
 iU .lenS 24 25, iD B3 23 25 26] (.ite (.t 26) .skip (.exit 1))) (.block 2 (.seq (.seq (.any [] [(iM 27 0, 0, []), (iM 28 9, 0, []), (iD .ixS 27 28 29, 0, []), (iM 30 7, 0, []), (iM 31 8, 0, []),
 (iD .ixS 30 31 32, 0, []), (iD B6 29 32 33, 0, [])]) (jI 33 (.seq (.any [41] [(iM 34 0, 0, [41]), (iM 35 9, 0, [41]), (jK B2 35 1 36, 0, [41]),
 (iD (.sls true false) 34 36 37, 0, [41]), (iM 38 7, 0, [41]), (iM 39 8, 0, [41]), (iD .ixS 38 39 40, 0, [41]), (iD (.call 98) 37 40 41, 3, [41]), (iM 11 41, 0, [])]) (.seq (jS [iM 42 11,
 jK B3 42 0 43] (jI 43 (jS [iJ .mv [.c (.pv (.i .i64 (-1)))] 4] .ret))) (.ops [iM 44 9, iM 45 11, jK B2 45 1 46, iD B2 44 46 47, iM 9 47])))))
 (.seq (jS [jC 1 12] (.block 3 (.loop (.seq (jS [iM 48 12, iM 49 7, iU .lenS 49 50, iD B3 48 50 51] (.ite (.t 51) .skip (.exit 3)))
 (.seq (.block 4 (.seq (.any [] [(iM 54 0, 0, []), (iM 55 9, 0, []), (iM 56 12, 0, []), (iD B5 55 56 57, 0, []), (iD .ixS 54 57 58, 0, []), (iM 59 7, 0, []), (iM 60 8, 0, []), (iM 61 12, 0, []),
 (iD B5 60 61 62, 0, []), (iD .ixS 59 62 63, 0, []), (iD B6 58 63 64, 0, [])]) (jI 64 .bad))) (.ops [iM 52 12, jK B2 52 1 53, iM 12 53])))))) (.seq (jS [iM 65 9, iM 66 8,
 iD B5 65 66 67, iM 4 67] .ret) (.seq .skip (jS [iM 68 10, jK B2 68 1 69, iM 10 69] (jS [iM 70 9, jK B2 70 1 71, iM 9 71] (jS [iJ .mv [.c zT] 72,
 jA .mv 10 73 72, jA .mv 9 74 72, jA (.call 100) 74 75 72, iG B4 [.t 73, .t 75] 76 72 true, jQ 72 76 77, iM 78 77, jA .mv 9 79 78, jA .mv 0 80 78,
 jA .lenS 80 81 78, iG B3 [.t 79, .t 81] 82 78 true, jQ 78 82 83, iM 84 83, iG .mv [.c zF] 85 84 false, jA .mv 10 86 85, jA .mv 9 87 85,
 iG (.bin .shr) [.t 87, .c (.pv (.i .u64 4))] 88 85 true, iG B2 [cI 4, .t 88] 89 85 true, iG B8 [.t 86, .t 89] 90 85 true, iG .pick [.t 85, .t 90, .c zF] 91 84 false, jB .mv 91 92 84,
 jA .mv 9 93 92, jA .mv 0 94 92, jA .lenS 94 95 92, iG B3 [.t 93, .t 95] 96 92 true, iG .pick [.t 92, .t 96, .c zF] 97 84 false, jP 84 97 98] (jI 98 .bad)))))))))))) (.seq (jS [iJ .mv [.c (.pv (.i .i64 (-1)))] 4] .ret) (.seq .skip (.seq (.ite (.c zT) (jS [iM 99 0, iM 100 9, iM 101 8, iD B5 100 101 102,
 iD (.sls true false) 99 102 103, iM 104 1, iU .r2s 104 105, iD (.call 101) 103 105 106, iM 13 106] (jS [iM 107 13, jK B8 107 0 108] (jI 108 (jS [iM 109 9, iM 110 13,
 iD B2 109 110 111, iM 112 8, iD B5 111 112 113, iM 4 113] .ret)))) (jS [iM 114 7, iM 115 8, iD .ixS 114 115 116, iM 14 116] (jS [iM 117 7, iM 118 8, jK B5 118 1 119,
 iD .ixS 117 119 120, iM 15 120] (.seq .skip (.block 5 (.loop (.seq (jS [iM 121 9, iM 122 0, iU .lenS 122 123, iD B3 121 123 124] (.ite (.t 124) .skip (.exit 5)))
 (.seq (.block 6 (jS [iM 127 0, iM 128 9, iD .ixS 127 128 129, iM 130 14, iD B1 129 130 131, iM 132 131, jA .mv 0 133 132, jA .mv 9 134 132, iG B5 [.t 134, cI 1] 135 132 true,
 iG .ixS [.t 133, .t 135] 136 132 true, jA .mv 15 137 132, iG B1 [.t 136, .t 137] 138 132 true, jQ 132 138 139] (jI 139 (.seq (jS [jC 2 16]
 (.block 7 (.loop (.seq (jS [iM 140 16, iM 141 7, iU .lenS 141 142, iD B3 140 142 143] (.ite (.t 143) .skip (.exit 7))) (.seq (.block 8 (.seq (.any [] [(iM 146 0, 0, []), (iM 147 9, 0, []),
 (iM 148 16, 0, []), (iD B5 147 148 149, 0, []), (iD .ixS 146 149 150, 0, []), (iM 151 7, 0, []), (iM 152 8, 0, []), (iM 153 16, 0, []), (iD B5 152 153 154, 0, []), (iD .ixS 151 154 155, 0, []),
 (iD B6 150 155 156, 0, [])]) (jI 156 (.exit 6)))) (.ops [iM 144 16, jK B2 144 1 145, iM 16 145])))))) (jS [iM 157 9, iM 158 8, iD B5 157 158 159, iM 4 159] .ret))))) (.ops [iM 125 9, jK B2 125 1 126, iM 9 126]))))))))) (jS [iJ .mv [.c (.pv (.i .i64 (-1)))] 4] .ret)))))))))))))))))
theorem fn87 : Be Tryz.prog 87 = some (187, [.t 4], ir87) := by kernel_rfl
def ir89 : C := (jS [iU .box 1 4, jC 0 6, iJ .mv [.c zF] 7] (jS [iM 12 0, iU .len 12 13, iM 8 13] (jS [iM 14 8, jC 0 9, iM 10 14]
 (.seq (.block 0 (.loop (.seq (jS [iM 15 9, iM 16 10, iD B3 15 16 17] (.ite (.t 17) .skip (.exit 0))) (.block 1 (jS [iM 18 9, iM 19 10, iD B2 18 19 20, iU (.cvI .u64) 20 21,
 iJ (.bin .shr) [.t 21, .c (.pv (.i .u64 1))] 22, iU (.cvI .i64) 22 23, iM 11 23] (.seq (.any [30] [(iM 24 2, 0, [30]), (iM 25 0, 0, [30]), (iM 26 11, 0, [30]), (iD (.iaS 15) 25 26 27, 1, [30]),
 (iU (.ld 15 true) 27 28, 1, [30]), (iU L2 4 29, 1, [30]), (iJ .callv [.t 24, .t 28, .t 29] 30, 1, [30]), (jK B3 30 0 31, 0, [])]) (.ite (.t 31) (.ops [iM 32 11, jK B2 32 1 33,
 iM 9 33]) (.ops [iM 34 11, iM 10 34])))))))) (.seq (.any [46] [(iM 35 9, 0, [46]), (iM 36 9, 0, [46]), (iM 37 8, 0, [46]), (iD B3 36 37 38, 0, [46]), (iM 39 38, 0, [46]),
 (jA .mv 2 40 39, 0, [46]), (jA .mv 0 41 39, 0, [46]), (jA .mv 9 42 39, 0, [46]), (iG (.iaS 15) [.t 41, .t 42] 43 39 true, 1, [46]), (jA (.ld 15 true) 43 44 39, 1, [46]),
 (jA L2 4 45 39, 1, [46]), (iG .callv [.t 40, .t 44, .t 45] 46 39 true, 1, [46]), (iG B1 [.t 46, cI 0] 47 39 true, 0, []), (jQ 39 47 48, 0, [46]), (iM 6 35, 0, []),
 (iM 7 48, 0, [])]) .ret)))))
theorem fn89 : Be Tryz.prog 89 = some (49, [.t 6, .t 7], ir89) := by kernel_rfl
def ir90 : C := (jS [iU .box 0 2, iU .box 1 3, jC 0 4] (jS [jF 0 2 5, iU L2 5 6, iU L2 3 7, iD (.call 91) 6 7 8, iM 4 8] .ret))
theorem fn90 : Be Tryz.prog 90 = some (9, [.t 4], ir90) := by kernel_rfl
def ir91 : C := (jS [iU .box 0 2, iU .box 1 3, jC 0 4] (.seq (.block 0 (jS [iU L2 2 6, iU L2 3 7, iD (.call 59) 6 7 8, iM 5 8]
 (.ite (.t 5) (jS [iJ .mv [.c (.pv (.i .i64 (-1)))] 4] .ret) (jS [iU L2 3 10, iU L2 2 11, iD (.call 59) 10 11 12, iM 9 12] (jI 9 (jS [jC 1 4] .ret)))))) (jS [jC 0 4] .ret)))
theorem fn91 : Be Tryz.prog 91 = some (13, [.t 4], ir91) := by kernel_rfl
def ir94 : C := (jS [iU .box 1 3, jC 0 4] (.seq (jS [iM 6 0, iU .len 6 7, jC 0 8] (.block 0 (.loop (jS [iD B3 8 7 9] (.seq (.ite (.t 9) .skip (.exit 0))
 (.seq (.block 1 (jS [iM 10 8, iM 5 10] (.seq (.any [] [(iU L2 3 11, 1, []), (iM 12 0, 0, []), (iM 13 5, 0, []), (iD (.iaS 2) 12 13 14, 1, []), (iU L2 14 15, 1, []),
 (iD (.eqv false [.int .i64, .int .u32]) 11 15 16, 0, [])]) (jI 16 (jS [iM 17 5, iM 4 17] .ret))))) (.ops [jK B2 8 1 18, iM 8 18])))))))
 (jS [iJ .mv [.c (.pv (.i .i64 (-1)))] 4] .ret)))
theorem fn94 : Be Tryz.prog 94 = some (19, [.t 4], ir94) := by kernel_rfl
def ir97 : C := (jS [iJ .mv [.c zS] 2] (jS [iJ .mv [.c zS] 3] (.seq (jS [jC 0 4] (.block 0 (.loop (.seq (jS [iM 5 4, iM 6 0, iD B3 5 6 7]
 (.ite (.t 7) .skip (.exit 0))) (.seq (.block 1 (.ops [iM 10 3, iJ B2 [.t 10, .c (.pv (.s [0]))] 11, iM 3 11])) (.ops [iM 8 4, jK B2 8 1 9, iM 4 9])))))) (jS [iM 12 3, iM 2 12]
 .ret))))
theorem fn97 : Be Tryz.prog 97 = some (13, [.t 2], ir97) := by kernel_rfl
def ir98 : C := (jS [jC 0 4] (jS [iM 5 0, iM 6 1, iD (.call 105) 5 6 7, iM 4 7] .ret))
theorem fn98 : Be Tryz.prog 98 = some (8, [.t 4], ir98) := by kernel_rfl
def ir99 : C := (jS [iJ .mv [.c zF] 2] (.seq (.block 0 (jS [iM 4 0, iJ B7 [.c (.pv (.i .i32 0)), .t 4] 5, iM 6 5, jA .mv 0 7 6, iG B3 [.t 7, .c (.pv (.i .i32 55296))] 8 6 true,
 jQ 6 8 9, iM 3 9] (.ite (.t 3) (jS [iJ .mv [.c zT] 2] .ret) (jS [iM 11 0, iJ B3 [.c (.pv (.i .i32 57343)), .t 11] 12, iM 13 12, jA .mv 0 14 13,
 iG B7 [.t 14, .c (.pv (.i .i32 1114111))] 15 13 true, jQ 13 15 16, iM 10 16] (jI 10 (jS [iJ .mv [.c zT] 2] .ret)))))) (jS [iJ .mv [.c zF] 2]
 .ret)))
theorem fn99 : Be Tryz.prog 99 = some (17, [.t 2], ir99) := by kernel_rfl
def ir105 : C := (jS [jC 0 4] (jS [iM 5 0, iM 6 1, iD (.call 108) 5 6 7, iM 4 7] .ret))
theorem fn105 : Be Tryz.prog 105 = some (8, [.t 4], ir105) := by kernel_rfl
end Go.Proofs.YthiamojjhdcegaaGreat.Fw
