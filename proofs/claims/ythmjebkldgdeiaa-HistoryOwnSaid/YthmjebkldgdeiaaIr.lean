/- The functions of the program in the small language, each checked against the program. -/
import Derived.Test.YthmjebkldgdeiaaFwD
import Derived.Test.YthmjebkldgdeiaaProg
import Derived.ProofKit
set_option linter.unusedVariables false
set_option linter.unusedSimpArgs false
set_option linter.unusedSectionVars false
set_option maxRecDepth 100000
namespace Go.Proofs.Ythmjebkldgdeiaa.Fw
open Go.Proofs
theorem Am : Try.prog.follows .mixedOrders = true := by kernel_rfl
def ir5 : C := (jS [iU .box 1 3, iJ (.new zF) [] 4] (.seq (jS [iJ (.call 7) [] 21, iU U1 21 22, iM 23 22, jB .mv 0 24 23, jB (.call 8) 24 25 23, jB U1 25 26 23,
 jP 23 26 27, iM 28 27, jB (.ld 21 true) 3 29 28, jB (.bsl 21) 29 30 28, jB (.call 8) 30 31 28, jB U1 31 32 28, jP 28 32 33]
 (jI 33 (jS [iJ (.call 7) [] 34, jW 1 4 34] .ret))) (jS [iJ (.bld [8, 1, 1, 8, 8]) [.c zV, .c zN, .c zN, .c zW, .c zX] 35, iU (.call 9) 35 36, iM 5 36]
 (jS [jC 0 6] (.seq (jS [iM 37 0, iU .len 37 38, jC 0 39] (.block 0 (.loop (jS [iD B3 39 38 40] (.seq (.ite (.t 40) .skip (.exit 0))
 (.seq (.block 1 (jS [iD (.iaS 21) 37 39 41, iU (.ld 21 true) 41 42, jE 8, jW 21 8 42]
 (jS [iM 43 5, iU (.ld 21 true) 8 44, iD (.call 10) 43 44 45, jK B1 45 0 46] (jI 46 (.ops [iM 47 6, jK B2 47 1 48, iM 6 48]))))) (.ops [jK B2 39 1 49,
 iM 39 49]))))))) (jS [iM 51 5, iJ (.bldV 8 1) [.c zU, .c zU, .c zU, .c zU, .c zU, .c zU, .c zU, .c zU] 52, iD (.call 13) 51 52 53, iM 50 53, iU (.ext 0) 50 54, iU (.ext 1) 50 55, iM 9 54,
 iM 10 55] (.seq (jS [iM 56 10, jK B6 56 0 57, iM 58 57, jB .mv 9 59 58, jB (.eqv false [.other]) 59 60 58, jP 58 60 61]
 (jI 61 (jS [iO S1 [.t 4, .c zF]] .ret))) (jS [iM 62 5, iU (.call 19) 62 63, iJ (.new (.agg [zV, zN, zN, zW, zX])) [] 11, jW 26 11 63]
 (jS [iM 64 5, iU (.ld 21 true) 3 65, iD (.call 10) 64 65 66] (jS [iM 67 5, iM 68 5, iU (.call 12) 68 69, iD (.call 20) 67 69 70] (jS [iJ (.new zI) [] 12,
 iO S1 [.t 12, cI 0]] (.seq (jS [iM 71 9] (.block 2 (.rng (.t 71) [72] (.ops [jE 13, jW 21 13 72])
 (.block 3 (jS [iU L1 12 73, jK B2 73 1 74, jW 1 12 74] (.seq (jS [jF 16 13 75, iU L1 75 76, iU .len 76 77, jC 0 78]
 (.block 4 (.loop (jS [iD B3 78 77 79] (.seq (.ite (.t 79) .skip (.exit 4)) (.seq (.block 5 (jS [iM 80 78, iM 14 80] (.ops [jF 16 13 81, iU L1 81 82, iM 83 14,
 iJ (.bld [1, 1]) [cI 0, .c zU] 84, iD (.iaS 2) 82 83 85, jW 2 85 84]))) (.ops [jK B2 78 1 86, iM 78 86]))))))) (jS [jF 17 13 87, iU L1 87 88, iU .len 88 89,
 jC 0 90] (.block 6 (.loop (jS [iD B3 90 89 91] (.seq (.ite (.t 91) .skip (.exit 6)) (.seq (.block 7 (jS [iM 92 90, iM 15 92] (.ops [jF 17 13 93, iU L1 93 94,
 iM 95 15, iJ (.bld [1, 1]) [cI 0, .c zU] 96, iD (.iaS 2) 94 95 97, jW 2 97 96]))) (.ops [jK B2 90 1 98, iM 90 98]))))))))))))) (.seq (jS [iM 99 9]
 (.block 8 (.rng (.t 99) [100] (.ops [jE 16, jW 21 16 100])
 (.block 9 (.seq (.anyP [101, 104, 107] [(iJ (.bsl 2) [] 101, 2, [101, 104, 107], [], 0), (jF 16 16 102, 0, [101, 104, 107], [], 1), (iU L1 102 103, 1, [101, 104, 107], [0], 2),
 (iD (.app 2 16) 101 103 104, 2, [104, 107], [], 3), (jF 17 16 105, 0, [101, 104, 107], [], 4), (iU L1 105 106, 1, [101, 104, 107], [0, 3], 5),
 (iD (.app 2 16) 104 106 107, 2, [101, 107], [], 6), (iU .len 107 108, 1, [101, 104], [], 7), (jC 0 109, 0, [101, 104, 107], [], 8)]) (.block 10 (.loop (jS [iD B3 109 108 110]
 (.seq (.ite (.t 110) .skip (.exit 10)) (.seq (.block 11 (jS [iD (.iaS 2) 107 109 111, iU L2 111 112, iJ (.new (.agg [zI, zU])) [] 18, jW 2 18 112] (jS [iU L2 18 113,
 iJ (.bld [1, 1]) [cI 0, .c zU] 114, iD (.eqv false [.int .i64, .int .u32]) 113 114 115] (jI 115 (jS [iO S1 [.t 4, .c zF]] .ret))))) (.ops [jK B2 109 1 116,
 iM 109 116]))))))))))) (jS [iM 117 5, iU (.call 19) 117 118, iJ (.new (.agg [zV, zN, zN, zW, zX])) [] 19, jW 26 19 118] (.seq (jS [jF 9 19 119, iU L1 119 120,
 iU .len 120 121, jC 0 122] (.block 12 (.loop (jS [iD B3 122 121 123] (.seq (.ite (.t 123) .skip (.exit 12)) (.seq (.block 13 (jS [iM 124 122, iM 20 124]
 (.ops [jF 9 19 125, iU L1 125 126, iM 127 20, iD (.iaS 15) 126 127 128, jF 4 128 129, iO S1 [.t 129, .c (.pv (.s [63]))]]))) (.ops [jK B2 122 1 130, iM 122 130])))))))
 (.seq (.seq (.any [132, 138, 140] [(iM 131 5, 0, [132, 138, 140]), (iU (.call 12) 131 132, 1, [132, 138, 140]), (jF 0 11 133, 0, [132, 138, 140]), (iU L8 133 134, 1, [132, 138, 140]),
 (iD (.eqv false [.int .u32, .int .u32, .int .u32, .int .u32, .int .u32, .int .u32, .int .u32, .int .u32]) 132 134 135, 0, [138, 140]), (iM 136 135, 0, [138, 140]),
 (jA .mv 5 137 136, 0, [132, 138, 140]), (jA (.call 19) 137 138 136, 1, [132, 138, 140]), (jA (.ld 26 true) 11 139 136, 1, [132, 138, 140]),
 (iG (.call 18) [.t 138, .t 139] 140 136 true, 3, [132, 140]), (jA U1 140 141 136, 0, [132, 138]), (jQ 136 141 142, 0, [132, 138, 140])])
 (jI 142 (jS [iO S1 [.t 4, .c zF]] .ret))) (jS [iU L1 12 143, iM 144 6, iD B1 143 144 145, jW 1 4 145] .ret)))))))))))))))))
theorem fn5 : A7 Try.prog 5 = some (146, [.c 4 1 false], ir5) := by kernel_rfl
def ir7 : C := (jS [iJ (.new zF) [] 0] (jS [iJ (.bld [8, 1, 1, 8, 8]) [.c zV, .c zN, .c zN, .c zW, .c zX] 6, iU (.call 9) 6 7, iM 1 7] (.seq (jS [iM 8 1,
 iU (.eqv false []) 8 9, iM 10 9, jB .mv 1 11 10, iG (.bld [1, 1]) [cI 1, .c (.pv (.i .u32 1))] 12 10 false,
 iG (.bld [2, 8, 1, 2, 2, 1, 1, 1, 1, 1, 1]) [.t 12, .c zV, cI 1, .c (.agg [zI, zU]), .c (.agg [zI, zU]), .c (.pv (.s [97])), .c zN, .c zN, cI 0, .c zS, cI 0] 13 10 false,
 iG (.call 10) [.t 11, .t 13] 14 10 false, iG B6 [.t 14, cI 0] 15 10 false, jP 10 15 16] (jI 16 (jS [iO S1 [.t 0, .c zF]] .ret))) (jS [iM 18 1,
 iJ (.bldV 8 1) [.c zU, .c zU, .c zU, .c zU, .c zU, .c zU, .c zU, .c zU] 19, iD (.call 13) 18 19 20, iM 17 20, iU (.ext 0) 17 21, iU (.ext 1) 17 22, iM 2 21, iM 3 22] (.seq (jS [iM 23 3,
 jK B6 23 0 24, iM 25 24, jB .mv 2 26 25, jB (.eqv false [.other]) 26 27 25, jP 25 27 28] (jI 28 (jS [iO S1 [.t 0, .c zF]] .ret)))
 (jS [iJ (.new zI) [] 4, iO S1 [.t 4, cI 0]] (.seq (jS [iM 29 2] (.block 0 (.rng (.t 29) [30] (.ops [jE 5,
 jW 21 5 30]) (.block 1 (jS [iU L1 4 31, jK B2 31 1 32, jW 1 4 32] (jS [jF 15 5 33, iU L1 33 34, iJ B6 [.t 34, .c (.pv (.s [97]))] 35]
 (jI 35 (jS [iO S1 [.t 0, .c zF]] .ret)))))))) (jS [iU L1 4 36, jK B1 36 1 37, iM 38 37, jA .mv 1 39 38, jA (.call 27) 39 40 38,
 iG B1 [.t 40, cI 1] 41 38 true, jQ 38 41 42, iM 43 42, jA .mv 1 44 43, jA (.call 12) 44 45 43,
 iG (.bldV 8 1) [.c (.pv (.i .u32 1)), .c zU, .c zU, .c zU, .c zU, .c zU, .c zU, .c zU] 46 43 true,
 iG (.eqv false [.int .u32, .int .u32, .int .u32, .int .u32, .int .u32, .int .u32, .int .u32, .int .u32]) [.t 45, .t 46] 47 43 true, jQ 43 47 48, jW 1 0 48]
 .ret))))))))
theorem fn7 : A7 Try.prog 7 = some (49, [.c 0 1 false], ir7) := by kernel_rfl
def ir8 : C := (jS [iJ .mv [.c zF] 2] (.seq (jS [iM 5 0, iU .len 5 6, jK B4 6 25 7] (jI 7 (jS [iJ .mv [.c zF] 2] .ret))) (.seq (jS [iM 8 0,
 iU .len 8 9, jC 0 10] (.block 0 (.loop (jS [iD B3 10 9 11] (.seq (.ite (.t 11) .skip (.exit 0)) (.seq (.block 1 (jS [iD (.iaS 21) 8 10 12, iU (.ld 21 true) 12 13,
 jE 4, jW 21 4 13] (jS [jF 15 4 14, iU L1 14 15, iU .lenS 15 16, jK B4 16 30 17,
 iM 18 17, jN 19 4 19 18, jB L1 19 20 18, jB .lenS 20 21 18, iG B4 [.t 21, cI 250] 22 18 false, jP 18 22 23, iM 24 23, jN 16 4 25 24,
 jB L1 25 26 24, jB .len 26 27 24, iG B4 [.t 27, cI 10] 28 24 false, jP 24 28 29, iM 30 29, jN 17 4 31 30, jB L1 31 32 30, jB .len 32 33 30,
 iG B4 [.t 33, cI 10] 34 30 false, jP 30 34 35] (jI 35 (jS [iJ .mv [.c zF] 2] .ret))))) (.ops [jK B2 10 1 36, iM 10 36])))))))
 (jS [iJ .mv [.c zT] 2] .ret))))
theorem fn8 : A7 Try.prog 8 = some (37, [.t 2], ir8) := by kernel_rfl
def ir9 : C := (jS [iU .box 0 1, iJ .mv [.c (.pv (.v (.pointer none)))] 2] (.seq (.any [4, 8] [(iU (.ld 26 true) 1 3, 1, [4, 8]), (iU (.call 28) 3 4, 1, [4, 8]), (jF 0 1 5, 0, [4, 8]),
 (iU L8 5 6, 1, [4, 8]), (iJ (.bld [26, 8, 1]) [.t 4, .t 6, .c zN] 7, 0, [8]), (iU .box 7 8, 1, [4, 8]), (iM 2 8, 0, [])]) .ret))
theorem fn9 : A7 Try.prog 9 = some (9, [.t 2], ir9) := by kernel_rfl
def ir10 : C := (jS [iU .box 1 3, jC 0 4] (.seq (jS [iM 7 0, iU (.eqv false []) 7 8] (jI 8 (jS [jC 3 4] .ret)))
 (.seq (.any [15, 5] [(iM 10 0, 0, [15, 5]), (iU .nilc 10 11, 0, [15, 5]), (jF 0 11 12, 0, [15, 5]), (iU (.ld 26 true) 12 13, 1, [15, 5]), (iU (.ld 21 true) 3 14, 1, [15, 5]),
 (iD (.call 29) 13 14 15, 1, [15, 5]), (iM 9 15, 0, [5]), (iU (.ext 0) 9 16, 0, [15, 5]), (iU (.ext 1) 9 17, 0, [15, 5]), (iJ (.new (.agg [zV, zN, zN, zW, zX])) [] 5, 1, [15, 5]),
 (jW 26 5 16, 2, []), (iM 6 17, 0, [])]) (.seq (jS [iM 18 6, jK B6 18 0 19] (jI 19 (jS [iM 20 6, iM 4 20] .ret))) (jS [iM 21 0,
 iU (.ld 26 true) 5 22, iU .nilc 21 23, jF 0 23 24, jW 26 24 22] (.seq (.any [30, 32, 33, 34] [(iM 25 0, 0, [30, 32, 33, 34]), (iM 26 0, 0, [30, 32, 33, 34]),
 (iU .nilc 26 27, 0, [30, 32, 33, 34]), (jF 34 27 28, 0, [30, 32, 33, 34]), (iU L1 28 29, 1, [30, 32, 33, 34]), (iU (.call 30) 29 30, 1, [30, 32, 33, 34]),
 (iU (.ld 21 true) 3 31, 1, [30, 32, 33, 34]), (iU (.call 31) 31 32, 2, [32, 33, 34]), (iU (.bsl 21) 32 33, 1, [30, 33, 34]), (iD (.app 21 184) 30 33 34, 2, [34]), (iU .nilc 25 35, 0, []),
 (jF 34 35 36, 0, []), (jW 1 36 34, 2, [])]) (jS [jC 0 4] .ret)))))))
theorem fn10 : A7 Try.prog 10 = some (37, [.t 4], ir10) := by kernel_rfl
def ir12 : C := (jS [iJ (.new zV) [] 2] (.seq (jS [iM 3 0, iU (.eqv false []) 3 4]
 (jI 4 (jS [iJ (.bldV 8 1) [.c zU, .c zU, .c zU, .c zU, .c zU, .c zU, .c zU, .c zU] 5, jW 8 2 5] .ret))) (jS [iM 6 0, iU .nilc 6 7, jF 0 7 8,
 jF 0 8 9, iU L8 9 10, jW 8 2 10] .ret)))
theorem fn12 : A7 Try.prog 12 = some (11, [.c 2 8 true], ir12) := by kernel_rfl
def ir13 : C := (jS [iU .box 1 3, iJ .mv [.c (.pv (.v .nilFunc))] 4, jC 0 5] (.seq (jS [iM 7 0, iU (.eqv false []) 7 8]
 (jI 8 (jS [iJ .mv [.c (.pv (.v .nilFunc))] 4, jC 3 5] .ret))) (.seq (.seq (.any [14] [(iM 9 0, 0, [14]), (iU .nilc 9 10, 0, [14]), (jF 26 10 11, 0, [14]),
 (iU L8 11 12, 1, [14]), (iU L8 3 13, 1, [14]), (iD (.call 32) 12 13 14, 3, [14]), (iU U1 14 15, 0, [])]) (jI 15 (jS [iJ .mv [.c (.pv (.v .nilFunc))] 4, jC 11 5] .ret)))
 (jS [iM 16 0, iU .nilc 16 17, jF 34 17 18, iU L1 18 19, iU (.call 30) 19 20, iJ (.new zN) [] 6, jW 1 6 20] (jS [iD (.mkf (.func 33)) 6 3 21, iM 4 21,
 jC 0 5] .ret)))))
theorem fn13 : A7 Try.prog 13 = some (22, [.t 4, .t 5], ir13) := by kernel_rfl
def ir18 : C := (jS [iU .box 0 2, iU .box 1 3, iJ .mv [.c zF] 4] (.seq (jS [jF 0 2 8, iU L8 8 9, jF 0 3 10, iU L8 10 11,
 iD (.eqv true [.int .u32, .int .u32, .int .u32, .int .u32, .int .u32, .int .u32, .int .u32, .int .u32]) 9 11 12, iM 13 12, jN 10 2 14 13, jB L8 14 15 13, jN 10 3 16 13,
 jB L8 16 17 13, iG (.eqv true [.int .i64, .int .i64, .int .i64, .int .i64, .int .i64, .int .i64, .int .i64, .int .i64]) [.t 15, .t 17] 18 13 false, jP 13 18 19, iM 20 19,
 jN 18 2 21 20, jB L8 21 22 20, jN 18 3 23 20, jB L8 23 24 20, iG (.eqv true [.bool, .bool, .bool, .bool, .bool, .bool, .bool, .bool]) [.t 22, .t 24] 25 20 false,
 jP 20 25 26, iM 27 26, jN 9 2 28 27, jB L1 28 29 27, jN 9 3 30 27, jB L1 30 31 27, iG (.call 37) [.t 29, .t 31] 32 27 false,
 jB U1 32 33 27, jP 27 33 34, iM 35 34, jN 8 2 36 35, jB L1 36 37 35, jB .len 37 38 35, jN 8 3 39 35, jB L1 39 40 35,
 jB .len 40 41 35, iG B6 [.t 38, .t 41] 42 35 false, jP 35 42 43] (jI 43 (jS [iJ .mv [.c zF] 4] .ret))) (.seq (jS [jC 0 5]
 (.block 0 (.loop (.seq (jS [iM 44 5, jF 8 2 45, iU L1 45 46, iU .len 46 47, iD B3 44 47 48] (.ite (.t 48) .skip (.exit 0)))
 (.seq (.block 1 (.seq (.anyP [6, 7] [(jF 8 2 51, 0, [6, 7], [], 0), (iU L1 51 52, 1, [6, 7], [], 1), (iM 53 5, 0, [6, 7], [], 2), (iD (.iaS 15) 52 53 54, 1, [6, 7], [], 3),
 (iU (.ld 15 true) 54 55, 1, [6, 7], [], 4), (jF 8 3 56, 0, [6, 7], [], 5), (iU L1 56 57, 1, [6, 7], [], 6), (iM 58 5, 0, [6, 7], [], 7), (iD (.iaS 15) 57 58 59, 1, [6, 7], [], 8),
 (iU (.ld 15 true) 59 60, 1, [6, 7], [], 9), (iJ (.new (.agg [zI, zU, zF, zI, zU, zS, zV, zN])) [] 6, 1, [6, 7], [], 10), (iJ (.new (.agg [zI, zU, zF, zI, zU, zS, zV, zN])) [] 7, 1, [6, 7], [], 11),
 (jW 15 6 55, 2, [], [6, 8, 9], 12), (jW 15 7 60, 2, [], [], 13)]) (jS [jF 0 6 61, iU L2 61 62, jF 0 7 63, iU L2 63 64,
 iD (.eqv true [.int .i64, .int .u32]) 62 64 65, iM 66 65, jN 2 6 67 66, jB L1 67 68 66, jN 2 7 69 66, jB L1 69 70 66, iG (.binB .neq) [.t 68, .t 70] 71 66 false,
 jP 66 71 72, iM 73 72, jN 3 6 74 73, jB L2 74 75 73, jN 3 7 76 73, jB L2 76 77 73,
 iG (.eqv true [.int .i64, .int .u32]) [.t 75, .t 77] 78 73 false, jP 73 78 79, iM 80 79, jN 5 6 81 80, jB L1 81 82 80, jN 5 7 83 80,
 jB L1 83 84 80, iG B6 [.t 82, .t 84] 85 80 false, jP 80 85 86, iM 87 86, jN 6 6 88 87, jB L8 88 89 87, jN 6 7 90 87, jB L8 90 91 87,
 iG (.eqv true [.int .u32, .int .u32, .int .u32, .int .u32, .int .u32, .int .u32, .int .u32, .int .u32]) [.t 89, .t 91] 92 87 false, jP 87 92 93, iM 94 93,
 jN 14 6 95 94, jB L1 95 96 94, jN 14 7 97 94, jB L1 97 98 94, iG (.call 38) [.t 96, .t 98] 99 94 false, jB U1 99 100 94,
 jP 94 100 101] (jI 101 (jS [iJ .mv [.c zF] 4] .ret))))) (.ops [iM 49 5, jK B2 49 1 50, iM 5 50])))))) (jS [iJ .mv [.c zT] 4] .ret))))
theorem fn18 : A7 Try.prog 18 = some (102, [.t 4], ir18) := by kernel_rfl
def ir19 : C := (jS [iJ (.new (.agg [zV, zN, zN, zW, zX])) [] 2] (.seq (jS [iM 3 0, iU (.eqv false []) 3 4]
 (jI 4 (jS [iJ (.bld [8, 1, 1, 8, 8]) [.c zV, .c zN, .c zN, .c zW, .c zX] 5, jW 26 2 5] .ret))) (jS [iM 6 0, iU .nilc 6 7, jF 0 7 8,
 iU (.ld 26 true) 8 9, iU (.call 28) 9 10, jW 26 2 10] .ret)))
theorem fn19 : A7 Try.prog 19 = some (11, [.c 2 26 true], ir19) := by kernel_rfl
def ir20 : C := (jS [iU .box 1 3, jC 0 4] (.seq (.block 0 (jS [iM 6 0, iU (.eqv false []) 6 7, iM 5 7] (.ite (.t 5) (jS [jC 3 4] .ret)
 (.seq (.any [14] [(iM 9 0, 0, [14]), (iU .nilc 9 10, 0, [14]), (jF 26 10 11, 0, [14]), (iU L8 11 12, 1, [14]), (iU L8 3 13, 1, [14]), (iD (.call 32) 12 13 14, 3, [14]), (iU U1 14 15, 0, []),
 (iM 8 15, 0, [])]) (.ite (.t 8) (jS [jC 11 4] .ret) (.seq (.any [23] [(iU L8 3 17, 1, [23]), (iM 18 0, 0, [23]), (iU .nilc 18 19, 0, [23]), (jF 0 19 20, 0, [23]),
 (jF 0 20 21, 0, [23]), (iU L8 21 22, 1, [23]), (iD (.call 32) 17 22 23, 3, [23]), (iU U1 23 24, 0, []), (iM 16 24, 0, [])]) (jI 16 (jS [jC 10 4] .ret))))))))
 (jS [iM 25 0, iU L8 3 26, iU .nilc 25 27, jF 26 27 28, jW 8 28 26] (jS [iM 29 0, iM 30 0, iU .nilc 30 31, jF 34 31 32, iU L1 32 33, iU (.call 40) 33 34,
 iU (.mkf (.func 41)) 3 35, iD (.call 39) 34 35 36, iU .nilc 29 37, jF 34 37 38, jW 1 38 36] (jS [jC 0 4] .ret)))))
theorem fn20 : A7 Try.prog 20 = some (39, [.t 4], ir20) := by kernel_rfl
def ir27 : C := (jS [jC 0 2] (.seq (jS [iM 3 0, iU (.eqv false []) 3 4] (jI 4 (jS [jC 0 2] .ret))) (jS [iM 5 0, iU .nilc 5 6,
 jF 34 6 7, iU L1 7 8, iU .len 8 9, iM 2 9] .ret)))
theorem fn27 : A7 Try.prog 27 = some (10, [.t 2], ir27) := by kernel_rfl
def ir28 : C := (jS [iU .box 0 1, iJ (.new (.agg [zV, zN, zN, zW, zX])) [] 2] (jS [iU (.ld 26 true) 1 6, iJ (.new (.agg [zV, zN, zN, zW, zX])) [] 3, jW 26 3 6]
 (jS [jF 9 1 7, iU L1 7 8, iU (.call 46) 8 9, jF 9 3 10, jW 1 10 9] (jS [jF 8 3 11, iO S1 [.t 11, .c zN]] (.seq (jS [jF 8 1 12, iU L1 12 13,
 iU .len 13 14, jC 0 15] (.block 0 (.loop (jS [iD B3 15 14 16] (.seq (.ite (.t 16) .skip (.exit 0)) (.seq (.block 1 (jS [iD (.iaS 15) 13 15 17, iU (.ld 15 true) 17 18,
 iJ (.new (.agg [zI, zU, zF, zI, zU, zS, zV, zN])) [] 5, jW 15 5 18] (jS [jF 14 5 19, iU L1 19 20, iU (.call 47) 20 21, jF 14 5 22, jW 1 22 21]
 (.ops [jF 8 3 23, iU L1 23 24, iU (.ld 15 true) 5 25, iU (.bsl 15) 25 26, iD (.app 15 112) 24 26 27, jF 8 3 28, jW 1 28 27])))) (.ops [jK B2 15 1 29, iM 15 29])))))))
 (jS [iU (.ld 26 true) 3 30, jW 26 2 30] .ret))))))
theorem fn28 : A7 Try.prog 28 = some (31, [.c 2 26 true], ir28) := by kernel_rfl
def ir29 : C := (jS [iU .box 0 2, iU .box 1 3, iJ (.new (.agg [zV, zN, zN, zW, zX])) [] 4, jC 0 5] (.seq (.block 0 (jS [iU (.ld 21 true) 3 9, iU (.call 48) 9 10, iU U1 10 11,
 iM 8 11] (.ite (.t 8) (jS [iJ (.bld [8, 1, 1, 8, 8]) [.c zV, .c zN, .c zN, .c zW, .c zX] 12, jW 26 4 12, jC 7 5] .ret) (jS [jF 0 2 14, iU L8 14 15,
 jF 0 3 16, iU L2 16 17, iD (.call 34) 15 17 18, iM 13 18] (.ite (.t 13) (jS [iJ (.bld [8, 1, 1, 8, 8]) [.c zV, .c zN, .c zN, .c zW, .c zX] 19, jW 26 4 19,
 jC 11 5] .ret) (jS [jF 2 3 21, iU L8 21 22, jF 0 2 23, iU L8 23 24, iD (.call 32) 22 24 25, iU U1 25 26, iM 20 26]
 (.ite (.t 20) (jS [iJ (.bld [8, 1, 1, 8, 8]) [.c zV, .c zN, .c zN, .c zW, .c zX] 27, jW 26 4 27, jC 10 5] .ret) (jS [jF 0 3 29, jF 0 29 30,
 iU L1 30 31, jK B5 31 1 32, jF 18 2 33, iD (.iaA 8 1) 33 32 34, iU L1 34 35, iM 28 35] (jI 28 (jS [iJ (.bld [8, 1, 1, 8, 8]) [.c zV, .c zN, .c zN, .c zW, .c zX] 36,
 jW 26 4 36, jC 28 5] .ret)))))))))) (jS [iU (.ld 26 true) 2 37, iU (.call 28) 37 38, iJ (.new (.agg [zV, zN, zN, zW, zX])) [] 6, jW 26 6 38]
 (jS [jF 0 2 39, iU L8 39 40, jF 0 3 41, iU L2 41 42, iD (.call 49) 40 42 43, jF 0 6 44, jW 8 44 43] (.seq (jS [iU (.ld 21 true) 3 45,
 iD (.call 50) 6 45 46, iM 7 46] (jS [iM 47 7, jK B6 47 0 48] (jI 48 (jS [iJ (.bld [8, 1, 1, 8, 8]) [.c zV, .c zN, .c zN, .c zW, .c zX] 49, iM 50 7,
 jW 26 4 49, iM 5 50] .ret)))) (jS [iU (.ld 26 true) 6 51, jW 26 4 51, jC 0 5] .ret))))))
theorem fn29 : A7 Try.prog 29 = some (52, [.c 4 26 true, .t 5], ir29) := by kernel_rfl
def ir30 : C := (jS [iJ .mv [.c zN] 2] (jS [iM 3 0, iM 4 0, iU .len 4 5, iM 6 0, iU .len 6 7, iJ (.slc 21 false true true) [.t 3, .t 5, .t 7] 8, iM 2 8] .ret))
theorem fn30 : A7 Try.prog 30 = some (9, [.t 2], ir30) := by kernel_rfl
def ir31 : C := (jS [iU .box 0 1, jE 2] (.seq (.any [5, 8] [(jF 16 1 3, 0, [5, 8]), (iU L1 3 4, 1, [5, 8]),
 (iU (.call 51) 4 5, 1, [5, 8]), (jF 17 1 6, 0, [5, 8]), (iU L1 6 7, 1, [5, 8]), (iU (.call 51) 7 8, 2, [8]), (jF 16 1 9, 0, [8]), (jW 1 9 5, 2, []), (jF 17 1 10, 0, []),
 (jW 1 10 8, 2, [])]) (jS [iU (.ld 21 true) 1 11, jW 21 2 11] .ret)))
theorem fn31 : A7 Try.prog 31 = some (12, [.c 2 21 true], ir31) := by kernel_rfl
def ir32 : C := (jS [iU .box 0 2, iU .box 1 3, iJ .mv [.c zF] 4] (.seq (jS [iU L8 2 7, jC 0 8] (.block 0 (.loop (jS [jK B3 8 8 9] (.seq (.ite (.t 9) .skip
 (.exit 0)) (.seq (.block 1 (jS [iM 10 8, iD (.ixA 8 1 false) 7 8 11, iM 5 10, iM 6 11] (jS [iM 12 6, iM 13 5, iD (.iaA 8 1) 3 13 14, iU L1 14 15, iD B4 12 15 16]
 (jI 16 (jS [iJ .mv [.c zF] 4] .ret))))) (.ops [jK B2 8 1 17, iM 8 17]))))))) (jS [iJ .mv [.c zT] 4] .ret)))
theorem fn32 : A7 Try.prog 32 = some (18, [.t 4], ir32) := by kernel_rfl
def ir33 : C := (jS [iU L1 1 6, iU .len 6 7, jC 0 8] (.block 0 (.loop (jS [iD B3 8 7 9] (.seq (.ite (.t 9) .skip (.exit 0)) (.seq (.block 1 (jS [iD (.iaS 21) 6 8 10,
 iU (.ld 21 true) 10 11, jE 5, jW 21 5 11] (jS [iU L8 2 12, jF 0 5 13, iU L2 13 14,
 iD (.call 34) 12 14 15, iU U1 15 16, iM 17 16, jA .mv 0 18 17, jA (.ld 21 true) 5 19 17, jA (.call 31) 19 20 17, iG .yv [.t 18, .t 20] 21 17 true, jA U1 21 22 17,
 jQ 17 22 23] (jI 23 .ret)))) (.ops [jK B2 8 1 24, iM 8 24])))))))
theorem fn33 : A7 Try.prog 33 = some (25, [], ir33) := by kernel_rfl
def ir34 : C := (jS [iU .box 0 2, iU .box 1 3, iJ .mv [.c zF] 4] (.seq (.any [14] [(jF 1 3 5, 0, [14]), (iU L1 5 6, 1, [14]), (iJ B8 [.t 6, .c (.pv (.i .u32 1))] 7, 0, [14]),
 (iM 8 7, 0, [14]), (jL 1 3 9 8, 0, [14]), (jA L1 9 10 8, 1, [14]), (jA L8 2 11 8, 1, [14]), (jL 0 3 12 8, 0, [14]), (jA L1 12 13 8, 1, [14]),
 (iG (.call 52) [.t 11, .t 13] 14 8 true, 1, [14]), (iG B7 [.t 10, .t 14] 15 8 true, 0, []), (jQ 8 15 16, 0, [14]), (iM 4 16, 0, [])]) .ret))
theorem fn34 : A7 Try.prog 34 = some (17, [.t 4], ir34) := by kernel_rfl
def ir37 : C := (jS [iJ .mv [.c zF] 4] (.seq (jS [iM 6 0, iU .len 6 7, iM 8 1, iU .len 8 9, iD B6 7 9 10] (jI 10 (jS [iJ .mv [.c zF] 4] .ret)))
 (.seq (jS [jC 0 5] (.block 0 (.loop (.seq (jS [iM 11 5, iM 12 0, iU .len 12 13, iD B3 11 13 14] (.ite (.t 14) .skip (.exit 0)))
 (.seq (.block 1 (.seq (.any [] [(iM 17 0, 0, []), (iM 18 5, 0, []), (iD (.iaS 15) 17 18 19, 1, []), (iU (.ld 15 true) 19 20, 1, []), (iM 21 1, 0, []), (iM 22 5, 0, []),
 (iD (.iaS 15) 21 22 23, 1, []), (iU (.ld 15 true) 23 24, 1, []),
 (iD (.eqv true [.int .i64, .int .u32, .int .i64, .int .u32, .str, .int .i64, .int .u32, .int .u32, .int .u32, .int .u32, .int .u32, .int .u32, .int .u32, .int .u32, .int .u32]) 20 24 25, 0, [])])
 (jI 25 (jS [iJ .mv [.c zF] 4] .ret)))) (.ops [iM 15 5, jK B2 15 1 16, iM 5 16])))))) (jS [iJ .mv [.c zT] 4] .ret))))
theorem fn37 : A7 Try.prog 37 = some (26, [.t 4], ir37) := by kernel_rfl
def ir38 : C := (jS [iJ .mv [.c zF] 4] (.seq (jS [iM 6 0, iU .len 6 7, iM 8 1, iU .len 8 9, iD B6 7 9 10] (jI 10 (jS [iJ .mv [.c zF] 4] .ret)))
 (.seq (jS [jC 0 5] (.block 0 (.loop (.seq (jS [iM 11 5, iM 12 0, iU .len 12 13, iD B3 11 13 14] (.ite (.t 14) .skip (.exit 0)))
 (.seq (.block 1 (.seq (.any [] [(iM 17 0, 0, []), (iM 18 5, 0, []), (iD (.iaS 11) 17 18 19, 1, []), (iU (.ld 11 true) 19 20, 1, []), (iM 21 1, 0, []), (iM 22 5, 0, []),
 (iD (.iaS 11) 21 22 23, 1, []), (iU (.ld 11 true) 23 24, 1, []),
 (iD (.eqv true [.int .i64, .int .u32, .str, .int .u32, .int .u32, .int .u32, .int .u32, .int .u32, .int .u32, .int .u32, .int .u32]) 20 24 25, 0, [])]) (jI 25 (jS [iJ .mv [.c zF] 4]
 .ret)))) (.ops [iM 15 5, jK B2 15 1 16, iM 5 16])))))) (jS [iJ .mv [.c zT] 4] .ret))))
theorem fn38 : A7 Try.prog 38 = some (26, [.t 4], ir38) := by kernel_rfl
def ir39 : C := (jS [iJ .mv [.c zN] 4] (jS [iM 8 0, iM 9 1, iD (.call 53) 8 9 10, iM 5 10] (.seq (jS [iM 11 5, iJ B1 [.t 11, .c (.pv (.i .i64 (-1)))] 12]
 (jI 12 (jS [iM 13 0, iM 4 13] .ret))) (.seq (jS [iM 14 5, jK B2 14 1 15, iM 6 15] (.block 0 (.loop (.seq (jS [iM 16 6, iM 17 0, iU .len 17 18,
 iD B3 16 18 19] (.ite (.t 19) .skip (.exit 0))) (.seq (.block 1 (jS [iM 22 0, iM 23 6, iD (.iaS 21) 22 23 24, iU (.ld 21 true) 24 25,
 jE 7, jW 21 7 25] (jS [iM 26 1, iU (.ld 21 true) 7 27, iD .yv 26 27 28, iU U1 28 29]
 (jI 29 (jS [iM 30 0, iM 31 5, iU (.ld 21 true) 7 32, iD (.iaS 21) 30 31 33, jW 21 33 32] (.ops [iM 34 5, jK B2 34 1 35, iM 5 35])))))) (.ops [iM 20 6,
 jK B2 20 1 21, iM 6 21])))))) (jS [iM 36 0, iM 37 5, iD (.slv 21 true false) 36 37 38,
 iO (.clr 21 [.i .i64 0, .i .u32 0, .i .u32 0, .i .u32 0, .i .u32 0, .i .u32 0, .i .u32 0, .i .u32 0, .i .u32 0, .i .u32 0, .i .i64 0, .i .i64 0, .i .u32 0, .i .i64 0, .i .u32 0, .s [], .sl true 0 [], .sl true 0 [], .i .i64 0, .s [], .i .i64 0]) [.t 38]]
 (jS [iM 39 0, iM 40 5, iD (.slc 21 false true false) 39 40 41, iM 4 41] .ret))))))
theorem fn39 : A7 Try.prog 39 = some (42, [.t 4], ir39) := by kernel_rfl
def ir40 : C := (jS [iJ .mv [.c zN] 2] (.seq (jS [iM 3 0, iU (.eqn false) 3 4] (jI 4 (jS [iJ .mv [.c zN] 2] .ret))) (jS [iJ (.bsl 21) [] 5, iM 6 0,
 iD (.app 21 184) 5 6 7, iM 2 7] .ret)))
theorem fn40 : A7 Try.prog 40 = some (8, [.t 2], ir40) := by kernel_rfl
def ir41 : C := (jS [iU .box 0 2, iJ .mv [.c zF] 3] (jS [iU L8 1 4, jF 0 2 5, iU L2 5 6, iD (.call 34) 4 6 7, iM 3 7] .ret))
theorem fn41 : A7 Try.prog 41 = some (8, [.t 3], ir41) := by kernel_rfl
def ir46 : C := (jS [iJ .mv [.c zN] 2] (.seq (jS [iM 3 0, iU (.eqn false) 3 4] (jI 4 (jS [iJ .mv [.c zN] 2] .ret))) (jS [iJ (.bsl 15) [] 5, iM 6 0,
 iD (.app 15 96) 5 6 7, iM 2 7] .ret)))
theorem fn46 : A7 Try.prog 46 = some (8, [.t 2], ir46) := by kernel_rfl
def ir47 : C := (jS [iJ .mv [.c zN] 2] (.seq (jS [iM 3 0, iU (.eqn false) 3 4] (jI 4 (jS [iJ .mv [.c zN] 2] .ret))) (jS [iJ (.bsl 11) [] 5, iM 6 0,
 iD (.app 11 64) 5 6 7, iM 2 7] .ret)))
theorem fn47 : A7 Try.prog 47 = some (8, [.t 2], ir47) := by kernel_rfl
def ir48 : C := (jS [iU .box 0 1, iJ .mv [.c zF] 2] (.seq (.seq (.any [] [(jF 0 1 7, 0, []), (jF 0 7 8, 0, []), (iU L1 8 9, 1, []), (jK B3 9 1 10, 0, []),
 (iM 11 10, 0, []), (jN 0 1 12 11, 0, []), (jN 0 12 13 11, 0, []), (jB L1 13 14 11, 1, []), (iG B4 [.t 14, cI 8] 15 11 false, 0, []),
 (jP 11 15 16, 0, []), (iM 17 16, 0, []), (jN 0 1 18 17, 0, []), (jN 1 18 19 17, 0, []), (jB L1 19 20 17, 1, []),
 (iG B3 [.t 20, .c (.pv (.i .u32 1))] 21 17 false, 0, []), (jP 17 21 22, 0, []), (iM 23 22, 0, []), (jN 0 1 24 23, 0, []), (jN 1 24 25 23, 0, []),
 (jB L1 25 26 23, 1, []), (iG B4 [.t 26, .c (.pv (.i .u32 1048576))] 27 23 false, 0, []), (jP 23 27 28, 0, []), (iM 29 28, 0, []), (jN 0 1 30 29, 0, []),
 (jN 0 30 31 29, 0, []), (jB L1 31 32 29, 1, []), (iG B5 [.t 32, cI 1] 33 29 false, 0, []), (jN 2 1 34 29, 0, []), (iG (.iaA 8 1) [.t 34, .t 33] 35 29 false, 0, []),
 (jB L1 35 36 29, 1, []), (jN 0 1 37 29, 0, []), (jN 1 37 38 29, 0, []), (jB L1 38 39 29, 1, []), (iG B5 [.t 39, .c (.pv (.i .u32 1))] 40 29 false, 0, []),
 (iG B6 [.t 36, .t 40] 41 29 false, 0, []), (jP 29 41 42, 0, []), (iM 43 42, 0, []), (jN 10 1 44 43, 0, []), (jB L1 44 45 43, 1, []),
 (iG B3 [.t 45, cI 1] 46 43 false, 0, []), (jP 43 46 47, 0, []), (iM 48 47, 0, []), (jN 10 1 49 48, 0, []), (jB L1 49 50 48, 1, []),
 (iG B4 [.t 50, cI 9] 51 48 false, 0, []), (jP 48 51 52, 0, [])]) (jI 52 (jS [iJ .mv [.c zF] 2] .ret))) (.seq (jS [jF 2 1 53, iU L8 53 54,
 jC 0 55] (.block 0 (.loop (jS [jK B3 55 8 56] (.seq (.ite (.t 56) .skip (.exit 0)) (.seq (.block 1 (jS [iD (.ixA 8 1 false) 54 55 57, iM 4 57]
 (jS [iM 58 4, iJ B4 [.t 58, .c (.pv (.i .u32 1048576))] 59] (jI 59 (jS [iJ .mv [.c zF] 2] .ret))))) (.ops [jK B2 55 1 60, iM 55 60])))))))
 (jS [iU (.ld 21 true) 1 61, iU (.call 58) 61 62, jE 5, jW 21 5 62]
 (.seq (jS [jF 11 5 63, iU L2 63 64, iJ (.bld [1, 1]) [cI 0, .c zU] 65, iD (.eqv true [.int .i64, .int .u32]) 64 65 66, iM 67 66, jN 13 5 68 67, jB L2 68 69 67,
 iG (.bld [1, 1]) [cI 0, .c zU] 70 67 false, iG (.eqv true [.int .i64, .int .u32]) [.t 69, .t 70] 71 67 false, jP 67 71 72, iM 73 72, jN 15 5 74 73,
 jB L1 74 75 73, iG B6 [.t 75, .c zS] 76 73 false, jP 73 76 77, iM 78 77, jN 16 5 79 78, jB L1 79 80 78, jB .len 80 81 78,
 iG B4 [.t 81, cI 0] 82 78 false, jP 78 82 83, iM 84 83, jN 17 5 85 84, jB L1 85 86 84, jB .len 86 87 84, iG B4 [.t 87, cI 0] 88 84 false,
 jP 84 88 89, iM 90 89, jN 18 5 91 90, jB L1 91 92 90, iG B6 [.t 92, cI 0] 93 90 false, jP 90 93 94, iM 95 94, jN 19 5 96 95,
 jB L1 96 97 95, iG B6 [.t 97, .c zS] 98 95 false, jP 95 98 99, iM 100 99, jN 20 5 101 100, jB L1 101 102 100, iG B6 [.t 102, cI 0] 103 100 false,
 jP 100 103 104] (jI 104 (jS [iJ .mv [.c zF] 2] .ret))) (jS [iJ .mv [.c (.fn (.func 59) [])] 6] (.seq (jS [jF 10 1 105,
 iU L1 105 106] (.block 2 (.seq (jS [jK B1 106 1 108, iM 107 108] (.ite (.t 107) .skip (.ops [jK B1 106 2 109, iM 107 109])))
 (.ite (.t 107) (jS [iU (.ld 21 true) 1 110, iU (.call 60) 110 111, iM 112 111, jL 15 1 113 112, jA L1 113 114 112, jA (.call 61) 114 115 112,
 jQ 112 115 116, iM 2 116] .ret) (jS [jK B1 106 3 118, iM 117 118] (.ite (.t 117) (jS [jF 2 1 119, iU L8 119 120, jF 11 1 121,
 iU L2 121 122, iD (.call 34) 120 122 123, iM 124 123, jL 17 1 125 124, jA L1 125 126 124, jL 2 1 127 124, jA L8 127 128 124,
 iG (.call 62) [.t 126, cI 1, .t 128] 129 124 true, jQ 124 129 130, iM 131 130, jA .mv 6 132 131, jL 18 1 133 131, jA L1 133 134 131,
 iG .yv [.t 132, .t 134] 135 131 true, jQ 131 135 136, iM 137 136, jL 19 1 138 137, jA L1 138 139 137, jA .lenS 139 140 137,
 iG B8 [.t 140, cI 1] 141 137 true, jQ 137 141 142, iM 143 142, jA .mv 6 144 143, jL 19 1 145 143, jA L1 145 146 143, jA .lenS 146 147 143,
 iG .yv [.t 144, .t 147] 148 143 true, jQ 143 148 149, iM 150 149, jA .mv 6 151 150, jL 18 1 152 150, jA L1 152 153 150, jL 19 1 154 150,
 jA L1 154 155 150, jA .lenS 155 156 150, iG B2 [.t 153, .t 156] 157 150 true, iG .yv [.t 151, .t 157] 158 150 true, jQ 150 158 159, iM 2 159] .ret)
 (jS [jK B1 106 4 161, iM 160 161] (.ite (.t 160) (jS [jF 2 1 162, iU L8 162 163, jF 11 1 164, iU L2 164 165, iD (.call 34) 163 165 166, iM 167 166,
 jL 17 1 168 167, jA L1 168 169 167, jL 2 1 170 167, jA L8 170 171 167, iG (.call 62) [.t 169, cI 1, .t 171] 172 167 true, jQ 167 172 173,
 iM 174 173, jA .mv 6 175 174, jL 18 1 176 174, jA L1 176 177 174, iG .yv [.t 175, .t 177] 178 174 true, jQ 174 178 179, iM 2 179] .ret)
 (jS [jK B1 106 5 181, iM 180 181] (.ite (.t 180) (jS [jF 2 1 182, iU L8 182 183, jF 11 1 184, iU L2 184 185, iD (.call 34) 183 185 186, iM 187 186,
 jL 17 1 188 187, jA L1 188 189 187, jL 2 1 190 187, jA L8 190 191 187, iG (.call 62) [.t 189, cI 8, .t 191] 192 187 true, jQ 187 192 193,
 iM 194 193, jL 17 1 195 194, jA L1 195 196 194, jA .len 196 197 194, iG B8 [.t 197, cI 2] 198 194 true, jQ 194 198 199, iM 200 199, jA .mv 6 201 200,
 jL 19 1 202 200, jA L1 202 203 200, jA .lenS 203 204 200, iG .yv [.t 201, .t 204] 205 200 true, jQ 200 205 206, iM 2 206] .ret)
 (jS [jK B1 106 6 208, iM 207 208] (.ite (.t 207) (jS [jF 2 1 209, iU L8 209 210, jF 11 1 211, iU L2 211 212, iD (.call 34) 210 212 213, iM 214 213,
 jL 16 1 215 214, jA L1 215 216 214, jL 2 1 217 214, jA L8 217 218 214, iG (.call 62) [.t 216, cI 8, .t 218] 219 214 true, jQ 214 219 220,
 iM 2 220] .ret) (jS [jK B1 106 7 222, iM 221 222] (.ite (.t 221) (jS [jF 2 1 223, iU L8 223 224, jF 11 1 225, iU L2 225 226, iD (.call 34) 224 226 227,
 iM 228 227, jL 16 1 229 228, jA L1 229 230 228, jL 2 1 231 228, jA L8 231 232 228, iG (.call 62) [.t 230, cI 8, .t 232] 233 228 true,
 jQ 228 233 234, iM 235 234, jA (.ld 21 true) 1 236 235, jA (.call 60) 236 237 235, jQ 235 237 238, iM 239 238, jL 15 1 240 239,
 jA L1 240 241 239, jA (.call 61) 241 242 239, jQ 239 242 243, iM 2 243] .ret) (jS [jK B1 106 8 245, iM 244 245]
 (jI 244 (jS [jF 20 1 246, iU L1 246 247, jK B8 247 1 248, iM 249 248, jL 20 1 250 249, jA L1 250 251 249, iG B7 [.t 251, cI 4] 252 249 true,
 jQ 249 252 253, iM 2 253] .ret))))))))))))))))) (jS [iJ .mv [.c zT] 2] .ret))))))))
theorem fn48 : A7 Try.prog 48 = some (254, [.t 2], ir48) := by kernel_rfl
def ir49 : C := (jS [iU .box 0 2, iU .box 1 3, iJ (.new zV) [] 4] (.seq (jS [jF 0 3 5, iU L1 5 6, jK B8 6 1 7, iM 8 7, jL 0 3 9 8, jA L1 9 10 8,
 iG B7 [.t 10, cI 8] 11 8 true, jQ 8 11 12] (jI 12 (.any [] [(jF 0 3 13, 0, []), (iU L1 13 14, 1, []), (jK B5 14 1 15, 0, []), (jF 0 3 16, 0, []),
 (iU L1 16 17, 1, []), (jK B5 17 1 18, 0, []), (iD (.iaA 8 1) 2 18 19, 0, []), (iU L1 19 20, 1, []), (jF 1 3 21, 0, []), (iU L1 21 22, 1, []), (iD .mx 20 22 23, 0, []),
 (iD (.iaA 8 1) 2 15 24, 0, []), (jW 1 24 23, 2, [])]))) (jS [iU L8 2 25, jW 8 4 25] .ret)))
theorem fn49 : A7 Try.prog 49 = some (26, [.c 4 8 true], ir49) := by kernel_rfl
def ir50 : C := (jS [iU .box 1 3, jC 0 4] (.seq (jS [jF 10 3 13, iU L1 13 14] (.block 0 (jS [jK B1 14 8 16, iM 15 16]
 (.ite (.t 15) (.seq (.any [] [(iM 17 0, 0, []), (jF 0 3 18, 0, []), (jF 0 18 19, 0, []), (iU L1 19 20, 1, []), (jK B5 20 1 21, 0, []), (jF 20 3 22, 0, []),
 (iU L1 22 23, 1, []), (iU .nilc 17 24, 0, []), (jF 10 24 25, 0, []), (iD (.iaA 8 1) 25 21 26, 0, []), (jW 1 26 23, 2, [])]) (jS [jC 0 4] .ret))
 (jS [jK B1 14 9 28, iM 27 28] (.ite (.t 27) (.seq (.any [] [(iM 29 0, 0, []), (jF 0 3 30, 0, []), (jF 0 30 31, 0, []), (iU L1 31 32, 1, []),
 (jK B5 32 1 33, 0, []), (iU .nilc 29 34, 0, []), (jF 18 34 35, 0, []), (iD (.iaA 8 1) 35 33 36, 0, []), (iO S1 [.t 36, .c zT], 2, [])]) (jS [jC 0 4] .ret))
 (.seq (jS [jK B1 14 1 38, iM 37 38] (.ite (.t 37) .skip (.ops [jK B1 14 2 39, iM 37 39]))) (jI 37 (.seq (.seq (.any [45] [(iM 40 0, 0, [45]),
 (iU .nilc 40 41, 0, [45]), (iU (.ld 26 true) 41 42, 1, [45]), (jF 13 3 43, 0, [45]), (iU L2 43 44, 1, [45]), (iD (.call 63) 42 44 45, 3, [45]), (iM 5 45, 0, [])]) (jS [iM 46 5,
 jK B6 46 0 47] (jI 47 (jS [iM 48 5, iM 4 48] .ret)))) (.seq (.any [56] [(iM 50 0, 0, [56]), (iU .nilc 50 51, 0, [56]), (jF 8 51 52, 0, [56]),
 (iU L1 52 53, 1, [56]), (jF 0 3 54, 0, [56]), (iU L2 54 55, 1, [56]), (iD (.call 64) 53 55 56, 3, [56]), (iM 49 56, 0, []), (iU (.ext 0) 49 57, 0, [56]), (iU (.ext 1) 49 58, 0, [56]),
 (iM 6 57, 0, []), (iM 7 58, 0, [])]) (.seq (.any [75, 76] [(iM 59 0, 0, [75, 76]), (iM 60 0, 0, [75, 76]), (iU .nilc 60 61, 0, [75, 76]), (jF 8 61 62, 0, [75, 76]), (iU L1 62 63, 1, [75, 76]),
 (iM 64 6, 0, [75, 76]), (jF 0 3 65, 0, [75, 76]), (iU L2 65 66, 1, [75, 76]), (jF 10 3 67, 0, [75, 76]), (iU L1 67 68, 1, [75, 76]), (jK B1 68 2 69, 0, [75, 76]),
 (jF 0 3 70, 0, [75, 76]), (iU L2 70 71, 1, [75, 76]), (jF 15 3 72, 0, [75, 76]), (iU L1 72 73, 1, [75, 76]),
 (iJ (.bld [2, 1, 2, 1, 8, 1]) [.t 66, .t 69, .t 71, .t 73, .c zV, .c zN] 74, 0, [75, 76]), (iU (.bsl 15) 74 75, 1, [75, 76]), (iJ (.call 65) [.t 63, .t 64, .t 75] 76, 2, [76]),
 (iU .nilc 59 77, 0, []), (jF 8 77 78, 0, []), (jW 1 78 76, 2, [])]) (.seq (.any [93] [(iM 79 0, 0, [93]), (iM 80 0, 0, [93]), (iU .nilc 80 81, 0, [93]), (jF 9 81 82, 0, [93]),
 (iU L1 82 83, 1, [93]), (jF 0 3 84, 0, [93]), (iU L2 84 85, 1, [93]), (jF 13 3 86, 0, [93]), (iU L2 86 87, 1, [93]), (jF 15 3 88, 0, [93]), (iU L1 88 89, 1, [93]),
 (jF 0 3 90, 0, [93]), (iU L2 90 91, 1, [93]), (iJ (.bld [2, 2, 1, 2, 8]) [.t 85, .t 87, .t 89, .t 91, .c zV] 92, 0, [93]), (iD (.call 66) 83 92 93, 2, [93]), (iU .nilc 79 94, 0, []),
 (jF 9 94 95, 0, []), (jW 1 95 93, 2, [])]) (jS [jC 0 4] .ret))))))))))))) (.seq (.any [103] [(iM 97 0, 0, [103]), (iU .nilc 97 98, 0, [103]),
 (jF 8 98 99, 0, [103]), (iU L1 99 100, 1, [103]), (jF 11 3 101, 0, [103]), (iU L2 101 102, 1, [103]), (iD (.call 64) 100 102 103, 3, [103]), (iM 96 103, 0, []),
 (iU (.ext 0) 96 104, 0, [103]), (iU (.ext 1) 96 105, 0, [103]), (iM 8 104, 0, []), (iM 9 105, 0, [])]) (.seq (jS [iM 106 9, iU U1 106 107] (jI 107 (jS [jC 2 4] .ret))) (jS [iM 108 0, iU .nilc 108 109, jF 8 109 110, iU L1 110 111, iM 112 8, iD (.iaS 15) 111 112 113, iM 10 113] (.seq (jS [jF 10 3 114, iU L1 114 115,
 jK B1 115 6 116, iM 117 116, jN 10 3 118 117, jB L1 118 119 117, iG B1 [.t 119, cI 7] 120 117 false, jP 117 120 121]
 (jI 121 (jS [iM 122 0, iM 123 10, iU (.ld 21 true) 3 124, iJ (.call 67) [.t 122, .t 123, .t 124] 125, iM 4 125] .ret))) (.seq (jS [iM 126 10, iU .nilc 126 127,
 jF 2 127 128, iU L1 128 129] (jI 129 (jS [jC 23 4] .ret))) (.seq (.any [136] [(iM 131 10, 0, [136]), (iU .nilc 131 132, 0, [136]),
 (jF 14 132 133, 0, [136]), (iU L1 133 134, 1, [136]), (iU (.ld 21 true) 3 135, 1, [136]), (iD (.call 68) 134 135 136, 3, [136]), (iM 130 136, 0, []), (iU (.ext 0) 130 137, 0, [136]),
 (iU (.ext 1) 130 138, 0, [136]), (iM 11 137, 0, []), (iM 12 138, 0, [])]) (.seq (jS [iM 139 12, jK B6 139 0 140] (jI 140 (jS [iM 141 12, iM 4 141] .ret)))
 (.seq (.any [154] [(iM 143 10, 0, [154]), (iM 144 10, 0, [154]), (iU .nilc 144 145, 0, [154]), (jF 14 145 146, 0, [154]), (iU L1 146 147, 1, [154]), (jF 17 3 148, 0, [154]),
 (iU L1 148 149, 1, [154]), (jF 0 3 150, 0, [154]), (iU L2 150 151, 1, [154]), (iM 152 11, 0, [154]), (iJ (.bld [2, 1, 8]) [.t 151, .t 152, .c zV] 153, 0, [154]),
 (iJ (.call 69) [.t 147, .t 149, .t 153] 154, 2, [154]), (iM 142 154, 0, []), (iU (.ext 0) 142 155, 0, [154]), (iU (.ext 1) 142 156, 0, [154]), (iU .nilc 143 157, 0, []), (jF 14 157 158, 0, []),
 (jW 1 158 155, 2, []), (iM 12 156, 0, [])]) (jS [iM 159 12, iM 4 159] .ret)))))))))))
theorem fn50 : A7 Try.prog 50 = some (160, [.t 4], ir50) := by kernel_rfl
def ir51 : C := (jS [iJ .mv [.c zN] 2] (.seq (jS [iM 3 0, iU (.eqn false) 3 4] (jI 4 (jS [iJ .mv [.c zN] 2] .ret))) (jS [iJ (.bsl 2) [] 5, iM 6 0,
 iD (.app 2 16) 5 6 7, iM 2 7] .ret)))
theorem fn51 : A7 Try.prog 51 = some (8, [.t 2], ir51) := by kernel_rfl
def ir52 : C := (jS [iU .box 0 2, iJ .mv [.c zU] 4] (.seq (jS [iM 5 1, jK B3 5 1 6, iM 7 6, jB .mv 1 8 7, iG B4 [.t 8, cI 8] 9 7 false,
 jP 7 9 10] (jI 10 (jS [iJ .mv [.c zU] 4] .ret))) (jS [iM 11 1, jK B5 11 1 12, iD (.iaA 8 1) 2 12 13, iU L1 13 14, iM 4 14] .ret)))
theorem fn52 : A7 Try.prog 52 = some (15, [.t 4], ir52) := by kernel_rfl
def ir53 : C := (jS [jC 0 4] (.seq (jS [iM 6 0, iU .len 6 7, jC 0 8] (.block 0 (.loop (jS [iD B3 8 7 9] (.seq (.ite (.t 9) .skip (.exit 0))
 (.seq (.block 1 (jS [iM 10 8, iM 5 10] (jS [iM 11 1, iM 12 0, iM 13 5, iD (.iaS 21) 12 13 14, iU (.ld 21 true) 14 15, iD .yv 11 15 16] (jI 16 (jS [iM 17 5, iM 4 17]
 .ret))))) (.ops [jK B2 8 1 18, iM 8 18]))))))) (jS [iJ .mv [.c (.pv (.i .i64 (-1)))] 4] .ret)))
theorem fn53 : A7 Try.prog 53 = some (19, [.t 4], ir53) := by kernel_rfl
def ir57 : C := (jS [iU .box 0 2, iU .box 1 3, iJ (.new zV) [] 4] (.seq (jS [iU L8 3 7, jC 0 8] (.block 0 (.loop (jS [jK B3 8 8 9] (.seq (.ite (.t 9) .skip
 (.exit 0)) (.seq (.block 1 (jS [iM 10 8, iD (.ixA 8 1 false) 7 8 11, iM 5 10, iM 6 11] (.ops [iM 12 5, iM 13 5, iD (.iaA 8 1) 2 13 14, iU L1 14 15, iM 16 6, iD .mx 15 16 17,
 iD (.iaA 8 1) 2 12 18, jW 1 18 17]))) (.ops [jK B2 8 1 19, iM 8 19]))))))) (jS [iU L8 2 20, jW 8 4 20] .ret)))
theorem fn57 : A7 Try.prog 57 = some (21, [.c 4 8 true], ir57) := by kernel_rfl
def ir58 : C := (jS [iU .box 0 1, jE 2] (.seq (jS [jF 10 1 3, iU L1 3 4]
 (.block 0 (.seq (jS [jK B1 4 1 6, iM 5 6] (.ite (.t 5) .skip (.ops [jK B1 4 2 7, iM 5 7]))) (.ite (.t 5) (.ops [iJ (.bld [1, 1]) [cI 0, .c zU] 8, jF 13 1 9,
 jW 2 9 8, jF 15 1 10, iO S1 [.t 10, .c zS]]) (jS [jK B1 4 3 12, iM 11 12] (.ite (.t 11) (.ops [iJ (.bld [1, 1]) [cI 0, .c zU] 13, jF 11 1 14,
 jW 2 14 13, jF 17 1 15, iO S1 [.t 15, .c zN], jF 18 1 16, iO S1 [.t 16, cI 0], jF 19 1 17, iO S1 [.t 17, .c zS]]) (jS [jK B1 4 4 19, iM 18 19]
 (.ite (.t 18) (.ops [iJ (.bld [1, 1]) [cI 0, .c zU] 20, jF 11 1 21, jW 2 21 20, jF 17 1 22, iO S1 [.t 22, .c zN], jF 18 1 23, iO S1 [.t 23, cI 0]])
 (jS [jK B1 4 5 25, iM 24 25] (.ite (.t 24) (.ops [iJ (.bld [1, 1]) [cI 0, .c zU] 26, jF 11 1 27, jW 2 27 26, jF 17 1 28, iO S1 [.t 28, .c zN],
 jF 19 1 29, iO S1 [.t 29, .c zS]]) (jS [jK B1 4 6 31, iM 30 31] (.ite (.t 30) (.ops [iJ (.bld [1, 1]) [cI 0, .c zU] 32, jF 11 1 33, jW 2 33 32,
 jF 16 1 34, iO S1 [.t 34, .c zN]]) (jS [jK B1 4 7 36, iM 35 36] (.ite (.t 35) (.ops [iJ (.bld [1, 1]) [cI 0, .c zU] 37, iJ (.bld [1, 1]) [cI 0, .c zU] 38, jF 11 1 39,
 jW 2 39 37, jF 16 1 40, iO S1 [.t 40, .c zN], jF 13 1 41, jW 2 41 38, jF 15 1 42, iO S1 [.t 42, .c zS]]) (jS [jK B1 4 8 44,
 iM 43 44] (jI 43 (.ops [jF 20 1 45, iO S1 [.t 45, cI 0]]))))))))))))))))) (jS [iU (.ld 21 true) 1 46, jW 21 2 46] .ret)))
theorem fn58 : A7 Try.prog 58 = some (47, [.c 2 21 true], ir58) := by kernel_rfl
def ir59 : C := (jS [iJ .mv [.c zF] 2] (jS [iM 3 0, jK B8 3 0 4, iM 5 4, jA .mv 0 6 5, iG B7 [.t 6, cI 200] 7 5 true, jQ 5 7 8, iM 2 8] .ret))
theorem fn59 : A7 Try.prog 59 = some (9, [.t 2], ir59) := by kernel_rfl
def ir60 : C := (jS [iU .box 0 1, iJ .mv [.c zF] 2] (jS [jF 13 1 3, iU L2 3 4, iJ (.bld [1, 1]) [cI 0, .c zU] 5, iD (.eqv false [.int .i64, .int .u32]) 4 5 6, iM 7 6,
 jN 2 1 8 7, jB L8 8 9 7, jN 13 1 10 7, jB L2 10 11 7, iG (.call 34) [.t 9, .t 11] 12 7 false, jP 7 12 13, iM 2 13] .ret))
theorem fn60 : A7 Try.prog 60 = some (14, [.t 2], ir60) := by kernel_rfl
def ir61 : C := (jS [iJ .mv [.c zF] 2] (.seq (jS [iM 5 0, iU .lenS 5 6, jK B3 6 1 7, iM 8 7, jB .mv 0 9 8, jB .lenS 9 10 8, iG B4 [.t 10, cI 12] 11 8 false,
 jP 8 11 12, iM 13 12, jB .mv 0 14 13, iG B1 [.t 14, .c (.pv (.s [46]))] 15 13 false, jP 13 15 16, iM 17 16, jB .mv 0 18 17,
 iG B1 [.t 18, .c (.pv (.s [46, 46]))] 19 17 false, jP 17 19 20] (jI 20 (jS [iJ .mv [.c zF] 2] .ret))) (.seq (jS [iM 21 0, iU .rgs 21 22]
 (.block 0 (.loop (jS [iU .nxs 22 23, iU (.ext 0) 23 24] (.seq (.ite (.t 24) .skip (.exit 0)) (.block 1 (jS [iU (.ext 2) 23 25, iM 4 25] (jS [iM 26 4, iU (.call 70) 26 27,
 iU U1 27 28, iM 29 28, jA .mv 4 30 29, iG B3 [.t 30, .c (.pv (.i .i32 48))] 31 29 true, jA .mv 31 32 29, jB .mv 4 33 32, iG B4 [.t 33, .c (.pv (.i .i32 57))] 34 32 false,
 iG .pick [.t 32, .c zT, .t 34] 35 29 true, jQ 29 35 36, iM 37 36, jA .mv 4 38 37, iG (.call 71) [.c (.pv (.s [46, 95, 45])), .t 38] 39 37 true, jA U1 39 40 37,
 jQ 37 40 41] (jI 41 (jS [iJ .mv [.c zF] 2] .ret)))))))))) (jS [iJ .mv [.c zT] 2] .ret))))
theorem fn61 : A7 Try.prog 61 = some (42, [.t 2], ir61) := by kernel_rfl
def ir62 : C := (jS [iU .box 2 5, iJ .mv [.c zF] 6] (.seq (jS [iM 9 0, iU .len 9 10, iM 11 1, iD B4 10 11 12] (jI 12 (jS [iJ .mv [.c zF] 6] .ret)))
 (.seq (jS [iM 13 0, iU .len 13 14, jC 0 15] (.block 0 (.loop (jS [iD B3 15 14 16] (.seq (.ite (.t 16) .skip (.exit 0)) (.seq (.block 1 (jS [iM 17 15,
 iD (.iaS 2) 13 15 18, iU L2 18 19, iJ (.new (.agg [zI, zU])) [] 8, iM 7 17, jW 2 8 19] (.seq (.any [22, 34] [(iU L8 5 20, 1, [22, 34]), (iU L2 8 21, 1, [22, 34]),
 (iD (.call 34) 20 21 22, 3, [22, 34]), (iU U1 22 23, 0, [34]), (iM 24 23, 0, [34]), (jB .mv 7 25 24, 0, [22, 34]), (iG B4 [.t 25, cI 0] 26 24 false, 0, [22, 34]),
 (jB .mv 26 27 24, 0, [22, 34]), (jA .mv 0 28 27, 0, [22, 34]), (jA .mv 7 29 27, 0, [22, 34]), (iG B5 [.t 29, cI 1] 30 27 true, 0, [22, 34]),
 (iG (.iaS 2) [.t 28, .t 30] 31 27 true, 1, [22, 34]), (jA L2 31 32 27, 1, [22, 34]), (jA L2 8 33 27, 1, [22, 34]), (iG (.call 72) [.t 32, .t 33] 34 27 true, 3, [22, 34]),
 (jA U1 34 35 27, 0, [22]), (iG .pick [.t 27, .t 35, .c zF] 36 24 false, 0, [22, 34]), (jP 24 36 37, 0, [22, 34])]) (jI 37 (jS [iJ .mv [.c zF] 6] .ret))))) (.ops [jK B2 15 1 38, iM 15 38]))))))) (jS [iJ .mv [.c zT] 6] .ret))))
theorem fn62 : A7 Try.prog 62 = some (39, [.t 6], ir62) := by kernel_rfl
def ir63 : C := (jS [iU .box 0 2, iU .box 1 3, jC 0 4] (.seq (jS [iU L2 3 7, iJ (.bld [1, 1]) [cI 0, .c zU] 8, iD (.eqv false [.int .i64, .int .u32]) 7 8 9]
 (jI 9 (jS [jC 0 4] .ret))) (jS [jF 8 2 11, iU L1 11 12, iU L2 3 13, iD (.call 64) 12 13 14, iM 10 14, iU (.ext 0) 10 15, iU (.ext 1) 10 16, iM 5 15,
 iM 6 16] (.seq (.block 0 (jS [iM 18 6, iU U1 18 19, iM 17 19] (.ite (.t 17) (jS [jC 2 4] .ret) (jS [jF 8 2 21, iU L1 21 22, iM 23 5, iD (.iaS 15) 22 23 24,
 jF 2 24 25, iU L1 25 26, iU U1 26 27, iM 20 27] (jI 20 (jS [jC 22 4] .ret)))))) (jS [jC 0 4] .ret)))))
theorem fn63 : A7 Try.prog 63 = some (28, [.t 4], ir63) := by kernel_rfl
def ir64 : C := (jS [iU .box 1 3, jC 0 4, iJ .mv [.c zF] 5] (jS [iM 6 0, iU L2 3 7, iJ (.call 73) [.t 6, .t 7, .c (.fn (.func 74) [])] 8, iU (.ext 0) 8 9, iU (.ext 1) 8 10,
 iM 4 9, iM 5 10] .ret))
theorem fn64 : A7 Try.prog 64 = some (11, [.t 4, .t 5], ir64) := by kernel_rfl
def ir65 : C := (jS [iJ .mv [.c zN] 6] (jS [iM 10 0, iM 11 1, iD (.slv 15 true false) 10 11 12] (jS [iM 13 2, iU .len 13 14, iM 7 14] (.seq (jS [iM 15 7,
 jK B1 15 0 16] (jI 16 (jS [iM 17 0, iM 6 17] .ret))) (jS [iM 18 0, iU .len 18 19, iM 8 19] (.seq (jS [iM 20 1, iM 21 8, iD B1 20 21 22]
 (jI 22 (jS [iM 23 0, iM 24 2, iD (.app 15 112) 23 24 25, iM 6 25] .ret))) (.seq (jS [iM 26 8, iM 27 7, iD B2 26 27 28, iM 29 0, iU .cap 29 30, iD B4 28 30 31]
 (jI 31 (jS [iM 32 0, iM 33 1, iD (.slv 15 false true) 32 33 34, iM 35 8, iM 36 7, iD B2 35 36 37, iM 38 1, iD B5 37 38 39,
 iD (.apz 15 112 [.i .i64 0, .i .u32 0, .b false, .i .i64 0, .i .u32 0, .s [], .i .u32 0, .i .u32 0, .i .u32 0, .i .u32 0, .i .u32 0, .i .u32 0, .i .u32 0, .i .u32 0, .sl true 0 []]) 34 39 40,
 iM 9 40] (jS [iM 41 9, iM 42 1, iD (.slv 15 true false) 41 42 43, iM 44 2, iD (.cpy 15) 43 44 45] (.seq (.any [] [(iM 46 9, 0, []), (iM 47 1, 0, []), (iM 48 7, 0, []),
 (iD B2 47 48 49, 0, []), (iD (.slv 15 true false) 46 49 50, 1, []), (iM 51 0, 0, []), (iM 52 1, 0, []), (iD (.slv 15 true false) 51 52 53, 1, []), (iD (.cpy 15) 50 53 54, 2, [])])
 (jS [iM 55 9, iM 6 55] .ret)))))) (jS [iM 56 0, iM 57 8, iM 58 7, iD B2 57 58 59, iD (.slx 15) 56 59 60, iM 0 60] (.seq (jS [iM 61 2, iM 62 0, iM 63 1, iM 64 7,
 iD B2 63 64 65, iD (.slv 15 true false) 62 65 66, iD (.call 75) 61 66 67, iU U1 67 68] (jI 68 (.seq (.any [] [(iM 69 0, 0, []), (iM 70 1, 0, []), (iM 71 7, 0, []), (iD B2 70 71 72, 0, []),
 (iD (.slv 15 true false) 69 72 73, 1, []), (iM 74 0, 0, []), (iM 75 1, 0, []), (iD (.slv 15 true false) 74 75 76, 1, []), (iD (.cpy 15) 73 76 77, 2, [])]) (jS [iM 78 0, iM 79 1,
 iD (.slv 15 true false) 78 79 80, iM 81 2, iD (.cpy 15) 80 81 82] (jS [iM 83 0, iM 6 83] .ret))))) (jS [iM 84 0, iM 85 8, iD (.slv 15 true false) 84 85 86, iM 87 2,
 iD (.cpy 15) 86 87 88] (jS [iM 89 0, iM 90 1, iD (.slc 15 true false false) 89 90 91, iM 92 7, iD (.call 76) 91 92 93] (jS [iM 94 0, iM 6 94] .ret))))))))))))
theorem fn65 : A7 Try.prog 65 = some (95, [.t 6], ir65) := by kernel_rfl
def ir66 : C := (jS [iU .box 1 3, iJ .mv [.c zN] 4] (jS [iM 8 0, jF 0 3 9, iU L2 9 10, iD (.call 77) 8 10 11, iM 7 11, iU (.ext 0) 7 12, iU (.ext 1) 7 13, iM 5 12, iM 6 13]
 (.seq (jS [iM 14 6] (jI 14 (jS [iM 15 0, iU (.call 46) 15 16, iM 4 16] .ret))) (.seq (.any [18, 21, 22] [(iM 17 0, 0, [18, 21, 22]),
 (iU (.call 46) 17 18, 1, [18, 21, 22]), (iM 19 5, 0, [18, 21, 22]), (iU (.ld 15 true) 3 20, 1, [18, 21, 22]), (iU (.bsl 15) 20 21, 1, [18, 21, 22]), (iJ (.call 78) [.t 18, .t 19, .t 21] 22, 3, [22]),
 (iM 4 22, 0, [])]) .ret))))
theorem fn66 : A7 Try.prog 66 = some (23, [.t 4], ir66) := by kernel_rfl
def ir67 : C := (jS [iU .box 2 5, jC 0 6] (.seq (jS [jF 10 5 10, iU L1 10 11, jK B1 11 7 12] (jI 12 (.seq (.any [18] [(iM 13 0, 0, [18]),
 (iU .nilc 13 14, 0, [18]), (iU (.ld 26 true) 14 15, 1, [18]), (jF 13 5 16, 0, [18]), (iU L2 16 17, 1, [18]), (iD (.call 63) 15 17 18, 3, [18]), (iM 7 18, 0, [])]) (jS [iM 19 7,
 jK B6 19 0 20] (jI 20 (jS [iM 21 7, iM 6 21] .ret)))))) (.seq (jS [iM 22 0, iU .nilc 22 23, jF 9 23 24, iU L1 24 25, iU .len 25 26,
 jC 0 27] (.block 0 (.loop (jS [iD B3 27 26 28] (.seq (.ite (.t 28) .skip (.exit 0)) (.seq (.block 1 (jS [iD (.iaS 15) 25 27 29, iU (.ld 15 true) 29 30,
 iJ (.new (.agg [zI, zU, zI, zU, zS, zI, zU, zV])) [] 9, jW 15 9 30] (jS [jF 5 9 31, iU L2 31 32, jF 11 5 33, iU L2 33 34,
 iD (.eqv false [.int .i64, .int .u32]) 32 34 35, iM 36 35, jL 16 5 37 36, jA L1 37 38 36, jL 0 9 39 36, jA L2 39 40 36, iG (.call 79) [.t 38, .t 40] 41 36 true,
 jQ 36 41 42] (jI 42 (.any [52] [(iM 43 0, 0, [52]), (iM 44 0, 0, [52]), (iU .nilc 44 45, 0, [52]), (jF 9 45 46, 0, [52]), (iU L1 46 47, 1, [52]),
 (jF 0 9 48, 0, [52]), (iU L2 48 49, 1, [52]), (jF 0 5 50, 0, [52]), (iU L2 50 51, 1, [52]), (iJ (.call 80) [.t 47, .t 49, .t 51] 52, 2, [52]), (iU .nilc 43 53, 0, []),
 (jF 9 53 54, 0, []), (jW 1 54 52, 2, [])]))))) (.ops [jK B2 27 1 55, iM 27 55]))))))) (.seq (jS [jF 10 5 56, iU L1 56 57, jK B1 57 6 58]
 (jI 58 (.seq (.any [68, 69] [(iM 59 1, 0, [68, 69]), (iM 60 1, 0, [68, 69]), (iU .nilc 60 61, 0, [68, 69]), (jF 6 61 62, 0, [68, 69]), (iU L8 62 63, 1, [68, 69]),
 (jF 2 5 64, 0, [68, 69]), (iU L8 64 65, 1, [68, 69]), (jF 0 5 66, 0, [68, 69]), (iU L2 66 67, 1, [68, 69]), (iD (.call 49) 65 67 68, 1, [68, 69]), (iD (.call 57) 63 68 69, 2, [69]),
 (iU .nilc 59 70, 0, []), (jF 6 70 71, 0, []), (jW 8 71 69, 2, [])]) (jS [jC 0 6] .ret)))) (.seq (.any [86] [(iM 72 0, 0, [86]), (iM 73 0, 0, [86]),
 (iU .nilc 73 74, 0, [86]), (jF 9 74 75, 0, [86]), (iU L1 75 76, 1, [86]), (jF 0 5 77, 0, [86]), (iU L2 77 78, 1, [86]), (jF 13 5 79, 0, [86]), (iU L2 79 80, 1, [86]),
 (jF 15 5 81, 0, [86]), (iU L1 81 82, 1, [86]), (jF 11 5 83, 0, [86]), (iU L2 83 84, 1, [86]), (iJ (.bld [2, 2, 1, 2, 8]) [.t 78, .t 80, .t 82, .t 84, .c zV] 85, 0, [86]),
 (iD (.call 66) 76 85 86, 2, [86]), (iU .nilc 72 87, 0, []), (jF 9 87 88, 0, []), (jW 1 88 86, 2, [])]) (.seq (.seq (.any [95] [(iM 89 1, 0, [95]), (iU .nilc 89 90, 0, [95]),
 (jF 3 90 91, 0, [95]), (iU L2 91 92, 1, [95]), (jF 0 5 93, 0, [95]), (iU L2 93 94, 1, [95]), (iD (.call 72) 92 94 95, 3, [95])]) (jI 95 (.anyP [] [(iM 96 1, 0, [], [], 0),
 (iM 97 1, 0, [], [], 1), (jF 0 5 98, 0, [], [], 2), (iU L2 98 99, 1, [], [], 3), (jF 15 5 100, 0, [], [], 4), (iU L1 100 101, 1, [], [], 5), (iU .nilc 96 102, 0, [], [], 6),
 (jF 3 102 103, 0, [], [], 7), (jW 2 103 99, 2, [], [5], 8), (iU .nilc 97 104, 0, [], [], 9), (jF 5 104 105, 0, [], [], 10), (jW 1 105 101, 2, [], [], 11)]))) (jS [jC 0 6] .ret)))))))
theorem fn67 : A7 Try.prog 67 = some (106, [.t 6], ir67) := by kernel_rfl
def ir68 : C := (jS [iU .box 1 3, iJ .mv [.c zS] 4, jC 0 5] (.seq (jS [jF 10 3 9, iU L1 9 10, jK B1 10 5 11] (jI 11 (jS [jF 19 3 12,
 iU L1 12 13, iM 4 13, jC 0 5] .ret))) (jS [iJ (.new (.agg [zI, zU])) [] 6] (.seq (jS [jF 17 3 14, iU L1 14 15, iU .len 15 16, jK B4 16 0 17]
 (jI 17 (.ops [jF 17 3 18, iU L1 18 19, jK (.iaS 2) 19 0 20, iU L2 20 21, jW 2 6 21]))) (jS [iM 23 0, iU L2 6 24, iD (.call 81) 23 24 25, iM 22 25,
 iU (.ext 0) 22 26, iU (.ext 1) 22 27, iM 7 26, iM 8 27] (.seq (jS [iM 28 8, jK B6 28 0 29] (jI 29 (jS [iM 30 8, iJ .mv [.c zS] 4, iM 5 30] .ret)))
 (.seq (jS [jF 10 3 31, iU L1 31 32, jK B1 32 4 33] (jI 33 (jS [iM 34 7, jF 18 3 35, iU L1 35 36, iD (.call 82) 34 36 37, iU (.ext 0) 37 38,
 iU (.ext 1) 37 39, iM 4 38, iM 5 39] .ret))) (jS [iM 40 7, jF 18 3 41, iU L1 41 42, jF 19 3 43, iU L1 43 44, iJ (.call 83) [.t 40, .t 42, .t 44] 45, iU (.ext 0) 45 46,
 iU (.ext 1) 45 47, iM 4 46, iM 5 47] .ret))))))))
theorem fn68 : A7 Try.prog 68 = some (48, [.t 4, .t 5], ir68) := by kernel_rfl
def ir69 : C := (jS [iU .box 2 5, iJ .mv [.c zN] 6, jC 0 7] (jS [iM 15 0, iU (.call 47) 15 16, iM 8 16] (.seq (jS [iM 17 1, iU .len 17 18, jC 0 19]
 (.block 0 (.loop (jS [iD B3 19 18 20] (.seq (.ite (.t 20) .skip (.exit 0)) (.seq (.block 1 (jS [iD (.iaS 2) 17 19 21, iU L2 21 22, iJ (.new (.agg [zI, zU])) [] 10,
 jW 2 10 22] (jS [iM 24 8, iU L2 10 25, iD (.call 84) 24 25 26, iM 23 26, iU (.ext 0) 23 27, iU (.ext 1) 23 28, iM 11 27, iM 12 28] (.seq (jS [iM 29 12, iU U1 29 30]
 (jI 30 (jS [iJ .mv [.c zN] 6, jC 2 7] .ret))) (.any [40] [(iM 31 8, 0, [40]), (iM 32 11, 0, [40]), (iM 33 8, 0, [40]), (iM 34 11, 0, [40]),
 (iD (.iaS 11) 33 34 35, 1, [40]), (jF 3 35 36, 0, [40]), (iU L8 36 37, 1, [40]), (jF 0 5 38, 0, [40]), (iU L2 38 39, 1, [40]), (iD (.call 49) 37 39 40, 2, [40]),
 (iD (.iaS 11) 31 32 41, 1, []), (jF 3 41 42, 0, []), (jW 8 42 40, 2, [])]))))) (.ops [jK B2 19 1 43, iM 19 43]))))))) (jS [iM 45 8, jF 0 5 46,
 iU L2 46 47, iD (.call 84) 45 47 48, iM 44 48, iU (.ext 0) 44 49, iU (.ext 1) 44 50, iM 13 49, iM 14 50] (.seq (jS [iM 51 14] (jI 51 (jS [iJ .mv [.c zN] 6, jC 11 7]
 .ret))) (jS [iM 52 8, iM 53 13, iU (.ld 11 true) 5 54, iU (.bsl 11) 54 55, iJ (.call 85) [.t 52, .t 53, .t 55] 56, iM 6 56, jC 0 7] .ret))))))
theorem fn69 : A7 Try.prog 69 = some (57, [.t 6, .t 7], ir69) := by kernel_rfl
def ir70 : C := (jS [iJ .mv [.c zF] 2] (jS [iM 3 0, iJ B8 [.t 3, .c (.pv (.i .i32 97))] 4, iM 5 4, jA .mv 0 6 5, iG B7 [.t 6, .c (.pv (.i .i32 122))] 7 5 true,
 jQ 5 7 8, iM 9 8, jB .mv 0 10 9, iG B8 [.t 10, .c (.pv (.i .i32 65))] 11 9 false, jB .mv 11 12 9, jA .mv 0 13 12,
 iG B7 [.t 13, .c (.pv (.i .i32 90))] 14 12 true, iG .pick [.t 12, .t 14, .c zF] 15 9 false, jP 9 15 16, iM 2 16] .ret))
theorem fn70 : A7 Try.prog 70 = some (17, [.t 2], ir70) := by kernel_rfl
def ir71 : C := (jS [iJ .mv [.c zF] 4] (jS [iM 5 0, iM 6 1, iD (.call 86) 5 6 7, jK B8 7 0 8, iM 4 8] .ret))
theorem fn71 : A7 Try.prog 71 = some (9, [.t 4], ir71) := by kernel_rfl
def ir72 : C := (jS [iU .box 0 2, iU .box 1 3, iJ .mv [.c zF] 4] (.seq (jS [jF 1 2 5, iU L1 5 6, jF 1 3 7, iU L1 7 8, iD B6 6 8 9]
 (jI 9 (jS [jF 1 2 10, iU L1 10 11, jF 1 3 12, iU L1 12 13, iD B3 11 13 14, iM 4 14] .ret))) (jS [jF 0 2 15, iU L1 15 16, jF 0 3 17, iU L1 17 18,
 iD B3 16 18 19, iM 4 19] .ret)))
theorem fn72 : A7 Try.prog 72 = some (20, [.t 4], ir72) := by kernel_rfl
def ir73 : C := (jS [iU .box 1 4, jC 0 6, iJ .mv [.c zF] 7] (jS [iM 12 0, iU .len 12 13, iM 8 13] (jS [iM 14 8, jC 0 9, iM 10 14]
 (.seq (.block 0 (.loop (.seq (jS [iM 15 9, iM 16 10, iD B3 15 16 17] (.ite (.t 17) .skip (.exit 0))) (.block 1 (jS [iM 18 9, iM 19 10, iD B2 18 19 20, iU (.cvI .u64) 20 21,
 iJ (.bin .shr) [.t 21, .c (.pv (.i .u64 1))] 22, iU (.cvI .i64) 22 23, iM 11 23] (.seq (.any [30] [(iM 24 2, 0, [30]), (iM 25 0, 0, [30]), (iM 26 11, 0, [30]), (iD (.iaS 15) 25 26 27, 1, [30]),
 (iU (.ld 15 true) 27 28, 1, [30]), (iU L2 4 29, 1, [30]), (iJ .callv [.t 24, .t 28, .t 29] 30, 1, [30]), (jK B3 30 0 31, 0, [])]) (.ite (.t 31) (.ops [iM 32 11, jK B2 32 1 33,
 iM 9 33]) (.ops [iM 34 11, iM 10 34])))))))) (.seq (.any [46] [(iM 35 9, 0, [46]), (iM 36 9, 0, [46]), (iM 37 8, 0, [46]), (iD B3 36 37 38, 0, [46]), (iM 39 38, 0, [46]),
 (jA .mv 2 40 39, 0, [46]), (jA .mv 0 41 39, 0, [46]), (jA .mv 9 42 39, 0, [46]), (iG (.iaS 15) [.t 41, .t 42] 43 39 true, 1, [46]), (jA (.ld 15 true) 43 44 39, 1, [46]),
 (jA L2 4 45 39, 1, [46]), (iG .callv [.t 40, .t 44, .t 45] 46 39 true, 1, [46]), (iG B1 [.t 46, cI 0] 47 39 true, 0, []), (jQ 39 47 48, 0, [46]), (iM 6 35, 0, []),
 (iM 7 48, 0, [])]) .ret)))))
theorem fn73 : A7 Try.prog 73 = some (49, [.t 6, .t 7], ir73) := by kernel_rfl
def ir74 : C := (jS [iU .box 0 2, iU .box 1 3, jC 0 4] (.seq (.block 0 (jS [jF 0 2 6, iU L2 6 7, iU L2 3 8, iD (.call 72) 7 8 9, iM 5 9]
 (.ite (.t 5) (jS [iJ .mv [.c (.pv (.i .i64 (-1)))] 4] .ret) (jS [iU L2 3 11, jF 0 2 12, iU L2 12 13, iD (.call 72) 11 13 14, iM 10 14]
 (jI 10 (jS [jC 1 4] .ret)))))) (jS [jC 0 4] .ret)))
theorem fn74 : A7 Try.prog 74 = some (15, [.t 4], ir74) := by kernel_rfl
def ir77 : C := (jS [iU .box 1 3, jC 0 4, iJ .mv [.c zF] 5] (jS [iM 6 0, iU L2 3 7, iJ (.call 88) [.t 6, .t 7, .c (.fn (.func 89) [])] 8, iU (.ext 0) 8 9, iU (.ext 1) 8 10,
 iM 4 9, iM 5 10] .ret))
theorem fn77 : A7 Try.prog 77 = some (11, [.t 4, .t 5], ir77) := by kernel_rfl
def ir78 : C := (jS [iJ .mv [.c zN] 6] (jS [iM 10 0, iM 11 1, iD (.slv 15 true false) 10 11 12] (jS [iM 13 2, iU .len 13 14, iM 7 14] (.seq (jS [iM 15 7,
 jK B1 15 0 16] (jI 16 (jS [iM 17 0, iM 6 17] .ret))) (jS [iM 18 0, iU .len 18 19, iM 8 19] (.seq (jS [iM 20 1, iM 21 8, iD B1 20 21 22]
 (jI 22 (jS [iM 23 0, iM 24 2, iD (.app 15 96) 23 24 25, iM 6 25] .ret))) (.seq (jS [iM 26 8, iM 27 7, iD B2 26 27 28, iM 29 0, iU .cap 29 30, iD B4 28 30 31]
 (jI 31 (jS [iM 32 0, iM 33 1, iD (.slv 15 false true) 32 33 34, iM 35 8, iM 36 7, iD B2 35 36 37, iM 38 1, iD B5 37 38 39,
 iD (.apz 15 96 [.i .i64 0, .i .u32 0, .i .i64 0, .i .u32 0, .s [], .i .i64 0, .i .u32 0, .i .u32 0, .i .u32 0, .i .u32 0, .i .u32 0, .i .u32 0, .i .u32 0, .i .u32 0, .i .u32 0]) 34 39 40, iM 9 40]
 (jS [iM 41 9, iM 42 1, iD (.slv 15 true false) 41 42 43, iM 44 2, iD (.cpy 15) 43 44 45] (.seq (.any [] [(iM 46 9, 0, []), (iM 47 1, 0, []), (iM 48 7, 0, []), (iD B2 47 48 49, 0, []),
 (iD (.slv 15 true false) 46 49 50, 1, []), (iM 51 0, 0, []), (iM 52 1, 0, []), (iD (.slv 15 true false) 51 52 53, 1, []), (iD (.cpy 15) 50 53 54, 2, [])]) (jS [iM 55 9, iM 6 55] .ret)))))) (jS [iM 56 0, iM 57 8, iM 58 7, iD B2 57 58 59, iD (.slx 15) 56 59 60, iM 0 60] (.seq (jS [iM 61 2, iM 62 0, iM 63 1, iM 64 7, iD B2 63 64 65,
 iD (.slv 15 true false) 62 65 66, iD (.call 91) 61 66 67, iU U1 67 68] (jI 68 (.seq (.any [] [(iM 69 0, 0, []), (iM 70 1, 0, []), (iM 71 7, 0, []), (iD B2 70 71 72, 0, []),
 (iD (.slv 15 true false) 69 72 73, 1, []), (iM 74 0, 0, []), (iM 75 1, 0, []), (iD (.slv 15 true false) 74 75 76, 1, []), (iD (.cpy 15) 73 76 77, 2, [])]) (jS [iM 78 0, iM 79 1,
 iD (.slv 15 true false) 78 79 80, iM 81 2, iD (.cpy 15) 80 81 82] (jS [iM 83 0, iM 6 83] .ret))))) (jS [iM 84 0, iM 85 8, iD (.slv 15 true false) 84 85 86, iM 87 2,
 iD (.cpy 15) 86 87 88] (jS [iM 89 0, iM 90 1, iD (.slc 15 true false false) 89 90 91, iM 92 7, iD (.call 92) 91 92 93] (jS [iM 94 0, iM 6 94] .ret))))))))))))
theorem fn78 : A7 Try.prog 78 = some (95, [.t 6], ir78) := by kernel_rfl
def ir79 : C := (jS [iU .box 1 3, iJ .mv [.c zF] 4] (jS [iM 5 0, iU L2 3 6, iD (.call 93) 5 6 7, jK B8 7 0 8, iM 4 8] .ret))
theorem fn79 : A7 Try.prog 79 = some (9, [.t 4], ir79) := by kernel_rfl
def ir80 : C := (jS [iU .box 1 4, iU .box 2 5, iJ .mv [.c zN] 6] (jS [iM 10 0, iU (.call 46) 10 11, iM 7 11] (.seq (jS [iM 13 0, iU L2 4 14, iD (.call 77) 13 14 15, iM 12 15,
 iU (.ext 0) 12 16, iU (.ext 1) 12 17, iM 8 16, iM 9 17] (jS [iM 18 9] (jI 18 (.any [27] [(iM 19 7, 0, [27]), (iM 20 8, 0, [27]), (iM 21 7, 0, [27]), (iM 22 8, 0, [27]),
 (iD (.iaS 15) 21 22 23, 1, [27]), (jF 7 23 24, 0, [27]), (iU L8 24 25, 1, [27]), (iU L2 5 26, 1, [27]), (iD (.call 49) 25 26 27, 2, [27]), (iD (.iaS 15) 19 20 28, 1, []),
 (jF 7 28 29, 0, []), (jW 8 29 27, 2, [])])))) (jS [iM 30 7, iM 6 30] .ret))))
theorem fn80 : A7 Try.prog 80 = some (31, [.t 6], ir80) := by kernel_rfl
def ir81 : C := (jS [iU .box 1 3, iJ .mv [.c zS] 4, jC 0 5] (.seq (jS [iU L2 3 8, iJ (.bld [1, 1]) [cI 0, .c zU] 9, iD (.eqv false [.int .i64, .int .u32]) 8 9 10]
 (jI 10 (jS [iJ .mv [.c zS] 4, jC 0 5] .ret))) (jS [iM 12 0, iU L2 3 13, iD (.call 84) 12 13 14, iM 11 14, iU (.ext 0) 11 15, iU (.ext 1) 11 16, iM 6 15,
 iM 7 16] (.seq (jS [iM 17 7, iU U1 17 18] (jI 18 (jS [iJ .mv [.c zS] 4, jC 2 5] .ret))) (jS [iM 19 0, iM 20 6, iD (.iaS 11) 19 20 21,
 jF 2 21 22, iU L1 22 23, iM 4 23, jC 0 5] .ret)))))
theorem fn81 : A7 Try.prog 81 = some (24, [.t 4, .t 5], ir81) := by kernel_rfl
def ir82 : C := (jS [iJ .mv [.c zS] 4, jC 0 5] (.seq (jS [iM 6 1, jK B3 6 0 7, iM 8 7, jB .mv 1 9 8, iG B4 [.t 9, cI 200] 10 8 false,
 jP 8 10 11] (jI 11 (jS [iJ .mv [.c zS] 4, jC 4 5] .ret))) (.seq (jS [iM 12 1, iM 13 0, iU .lenS 13 14, iD B3 12 14 15]
 (jI 15 (jS [iM 16 0, iM 17 1, iD (.sls false true) 16 17 18, iM 4 18, jC 0 5] .ret))) (jS [iM 19 0, iM 20 1, iM 21 0, iU .lenS 21 22, iD B5 20 22 23,
 iD (.mks [.i .u8 0] 1) 23 23 24, iU .b2s 24 25, iD B2 19 25 26, iM 4 26, jC 0 5] .ret))))
theorem fn82 : A7 Try.prog 82 = some (27, [.t 4, .t 5], ir82) := by kernel_rfl
def ir83 : C := (jS [iJ .mv [.c zS] 6, jC 0 7] (.seq (jS [iM 9 1, jK B3 9 0 10, iM 11 10, jB .mv 1 12 11, iG B4 [.t 12, cI 200] 13 11 false,
 jP 11 13 14, iM 15 14, jB .mv 0 16 15, jB .lenS 16 17 15, iG B4 [.t 17, cI 200] 18 15 false, jP 15 18 19, iM 20 19, jB .mv 2 21 20,
 jB .lenS 21 22 20, jB .mv 1 23 20, iG B5 [cI 200, .t 23] 24 20 false, iG B4 [.t 22, .t 24] 25 20 false, jP 20 25 26] (jI 26 (jS [iJ .mv [.c zS] 6,
 jC 4 7] .ret))) (jS [iM 27 0, iU .s2b 27 28, iM 8 28] (.seq (.block 0 (.loop (.seq (jS [iM 29 8, iU .len 29 30, iM 31 1, iM 32 2, iU .lenS 32 33, iD B2 31 33 34,
 iD B3 30 34 35] (.ite (.t 35) .skip (.exit 0))) (.block 1 (.ops [iM 36 8, iJ (.bsl 1) [.c (.pv (.i .u8 0))] 37, iD (.app 1 1) 36 37 38, iM 8 38]))))) (jS [iM 39 8, iM 40 1,
 iD (.slv 1 true false) 39 40 41, iM 42 2, iD (.cpy 1) 41 42 43] (jS [iM 44 8, iU .b2s 44 45, iM 6 45, jC 0 7] .ret))))))
theorem fn83 : A7 Try.prog 83 = some (46, [.t 6, .t 7], ir83) := by kernel_rfl
def ir84 : C := (jS [iU .box 1 3, jC 0 4, iJ .mv [.c zF] 5] (.seq (jS [iM 8 0, iU .len 8 9, jC 0 10] (.block 0 (.loop (jS [iD B3 10 9 11]
 (.seq (.ite (.t 11) .skip (.exit 0)) (.seq (.block 1 (jS [iM 12 10, iD (.iaS 11) 8 10 13, iU (.ld 11 true) 13 14, iJ (.new (.agg [zI, zU, zS, zV])) [] 7, iM 6 12, jW 11 7 14]
 (.seq (jS [jF 0 7 15, iU L2 15 16, iU L2 3 17, iD (.eqv false [.int .i64, .int .u32]) 16 17 18] (jI 18 (jS [iM 19 6, iM 4 19, iJ .mv [.c zT] 5] .ret)))
 (jS [iU L2 3 20, jF 0 7 21, iU L2 21 22, iD (.call 72) 20 22 23] (jI 23 (jS [iM 24 6, iM 4 24, iJ .mv [.c zF] 5] .ret)))))) (.ops [jK B2 10 1 25,
 iM 10 25]))))))) (jS [iM 26 0, iU .len 26 27, iM 4 27, iJ .mv [.c zF] 5] .ret)))
theorem fn84 : A7 Try.prog 84 = some (28, [.t 4, .t 5], ir84) := by kernel_rfl
def ir85 : C := (jS [iJ .mv [.c zN] 6] (jS [iM 10 0, iM 11 1, iD (.slv 11 true false) 10 11 12] (jS [iM 13 2, iU .len 13 14, iM 7 14] (.seq (jS [iM 15 7,
 jK B1 15 0 16] (jI 16 (jS [iM 17 0, iM 6 17] .ret))) (jS [iM 18 0, iU .len 18 19, iM 8 19] (.seq (jS [iM 20 1, iM 21 8, iD B1 20 21 22]
 (jI 22 (jS [iM 23 0, iM 24 2, iD (.app 11 64) 23 24 25, iM 6 25] .ret))) (.seq (jS [iM 26 8, iM 27 7, iD B2 26 27 28, iM 29 0, iU .cap 29 30, iD B4 28 30 31]
 (jI 31 (jS [iM 32 0, iM 33 1, iD (.slv 11 false true) 32 33 34, iM 35 8, iM 36 7, iD B2 35 36 37, iM 38 1, iD B5 37 38 39,
 iD (.apz 11 64 [.i .i64 0, .i .u32 0, .s [], .i .u32 0, .i .u32 0, .i .u32 0, .i .u32 0, .i .u32 0, .i .u32 0, .i .u32 0, .i .u32 0]) 34 39 40, iM 9 40] (jS [iM 41 9, iM 42 1,
 iD (.slv 11 true false) 41 42 43, iM 44 2, iD (.cpy 11) 43 44 45] (.seq (.any [] [(iM 46 9, 0, []), (iM 47 1, 0, []), (iM 48 7, 0, []), (iD B2 47 48 49, 0, []),
 (iD (.slv 11 true false) 46 49 50, 1, []), (iM 51 0, 0, []), (iM 52 1, 0, []), (iD (.slv 11 true false) 51 52 53, 1, []), (iD (.cpy 11) 50 53 54, 2, [])]) (jS [iM 55 9, iM 6 55] .ret)))))) (jS [iM 56 0, iM 57 8, iM 58 7, iD B2 57 58 59, iD (.slx 11) 56 59 60, iM 0 60] (.seq (jS [iM 61 2, iM 62 0, iM 63 1, iM 64 7, iD B2 63 64 65,
 iD (.slv 11 true false) 62 65 66, iD (.call 94) 61 66 67, iU U1 67 68] (jI 68 (.seq (.any [] [(iM 69 0, 0, []), (iM 70 1, 0, []), (iM 71 7, 0, []), (iD B2 70 71 72, 0, []),
 (iD (.slv 11 true false) 69 72 73, 1, []), (iM 74 0, 0, []), (iM 75 1, 0, []), (iD (.slv 11 true false) 74 75 76, 1, []), (iD (.cpy 11) 73 76 77, 2, [])]) (jS [iM 78 0, iM 79 1,
 iD (.slv 11 true false) 78 79 80, iM 81 2, iD (.cpy 11) 80 81 82] (jS [iM 83 0, iM 6 83] .ret))))) (jS [iM 84 0, iM 85 8, iD (.slv 11 true false) 84 85 86, iM 87 2,
 iD (.cpy 11) 86 87 88] (jS [iM 89 0, iM 90 1, iD (.slc 11 true false false) 89 90 91, iM 92 7, iD (.call 95) 91 92 93] (jS [iM 94 0, iM 6 94] .ret))))))))))))
theorem fn85 : A7 Try.prog 85 = some (95, [.t 6], ir85) := by kernel_rfl
def ir86 : C := (jS [jC 0 4] (.block 0 (jS [iM 161 1, iJ B7 [.c (.pv (.i .i32 0)), .t 161] 162, iM 163 162, jA .mv 1 164 163,
 iG B3 [.t 164, .c (.pv (.i .i32 128))] 165 163 true, jQ 163 165 166, iM 160 166] (.ite (.t 160) (jS [iM 167 0, iM 168 1, iU (.cvI .u8) 168 169,
 iD (.call 96) 167 169 170, iM 4 170] .ret) (jS [iM 172 1, iJ B1 [.t 172, .c (.pv (.i .i32 65533))] 173, iM 171 173] (.ite (.t 171) (.seq (jS [iM 174 0, iU .rgs 174 175]
 (.block 9 (.loop (jS [iU .nxs 175 176, iU (.ext 0) 176 177] (.seq (.ite (.t 177) .skip (.exit 9)) (.block 10 (jS [iU (.ext 1) 176 178, iU (.ext 2) 176 179, iM 5 178, iM 6 179]
 (jS [iM 180 6, iJ B1 [.t 180, .c (.pv (.i .i32 65533))] 181] (jI 181 (jS [iM 182 5, iM 4 182] .ret)))))))))) (jS [iJ .mv [.c (.pv (.i .i64 (-1)))] 4] .ret))
 (jS [iM 184 1, iU (.call 97) 184 185, iU U1 185 186, iM 183 186] (.ite (.t 183) (jS [iJ .mv [.c (.pv (.i .i64 (-1)))] 4] .ret) (jS [iM 17 1, iU .r2s 17 18, iM 7 18]
 (jS [iM 19 7, iU .lenS 19 20, jK B5 20 1 21, iM 8 21] (jS [iM 22 8, iM 9 22] (jS [jC 0 10] (.seq (.block 1 (.loop (.seq (jS [iM 23 9, iM 24 0,
 iU .lenS 24 25, iD B3 23 25 26] (.ite (.t 26) .skip (.exit 1))) (.block 2 (.seq (.seq (.any [] [(iM 27 0, 0, []), (iM 28 9, 0, []), (iD .ixS 27 28 29, 0, []), (iM 30 7, 0, []), (iM 31 8, 0, []),
 (iD .ixS 30 31 32, 0, []), (iD B6 29 32 33, 0, [])]) (jI 33 (.seq (.any [41] [(iM 34 0, 0, [41]), (iM 35 9, 0, [41]), (jK B2 35 1 36, 0, [41]),
 (iD (.sls true false) 34 36 37, 0, [41]), (iM 38 7, 0, [41]), (iM 39 8, 0, [41]), (iD .ixS 38 39 40, 0, [41]), (iD (.call 96) 37 40 41, 3, [41]), (iM 11 41, 0, [])]) (.seq (jS [iM 42 11,
 jK B3 42 0 43] (jI 43 (jS [iJ .mv [.c (.pv (.i .i64 (-1)))] 4] .ret))) (.ops [iM 44 9, iM 45 11, jK B2 45 1 46, iD B2 44 46 47, iM 9 47])))))
 (.seq (jS [jC 1 12] (.block 3 (.loop (.seq (jS [iM 48 12, iM 49 7, iU .lenS 49 50, iD B3 48 50 51] (.ite (.t 51) .skip (.exit 3)))
 (.seq (.block 4 (.seq (.any [] [(iM 54 0, 0, []), (iM 55 9, 0, []), (iM 56 12, 0, []), (iD B5 55 56 57, 0, []), (iD .ixS 54 57 58, 0, []), (iM 59 7, 0, []), (iM 60 8, 0, []), (iM 61 12, 0, []),
 (iD B5 60 61 62, 0, []), (iD .ixS 59 62 63, 0, []), (iD B6 58 63 64, 0, [])]) (jI 64 .bad))) (.ops [iM 52 12, jK B2 52 1 53, iM 12 53])))))) (.seq (jS [iM 65 9, iM 66 8,
 iD B5 65 66 67, iM 4 67] .ret) (.seq .skip (jS [iM 68 10, jK B2 68 1 69, iM 10 69] (jS [iM 70 9, jK B2 70 1 71, iM 9 71] (jS [iJ .mv [.c zT] 72,
 jA .mv 10 73 72, jA .mv 9 74 72, jA (.call 98) 74 75 72, iG B4 [.t 73, .t 75] 76 72 true, jQ 72 76 77, iM 78 77, jA .mv 9 79 78, jA .mv 0 80 78,
 jA .lenS 80 81 78, iG B3 [.t 79, .t 81] 82 78 true, jQ 78 82 83, iM 84 83, iG .mv [.c zF] 85 84 false, jA .mv 10 86 85, jA .mv 9 87 85,
 iG (.bin .shr) [.t 87, .c (.pv (.i .u64 4))] 88 85 true, iG B2 [cI 4, .t 88] 89 85 true, iG B8 [.t 86, .t 89] 90 85 true, iG .pick [.t 85, .t 90, .c zF] 91 84 false, jB .mv 91 92 84,
 jA .mv 9 93 92, jA .mv 0 94 92, jA .lenS 94 95 92, iG B3 [.t 93, .t 95] 96 92 true, iG .pick [.t 92, .t 96, .c zF] 97 84 false, jP 84 97 98] (jI 98 .bad)))))))))))) (.seq (jS [iJ .mv [.c (.pv (.i .i64 (-1)))] 4] .ret) (.seq .skip (.seq (.ite (.c zT) (jS [iM 99 0, iM 100 9, iM 101 8, iD B5 100 101 102,
 iD (.sls true false) 99 102 103, iM 104 1, iU .r2s 104 105, iD (.call 99) 103 105 106, iM 13 106] (jS [iM 107 13, jK B8 107 0 108] (jI 108 (jS [iM 109 9, iM 110 13,
 iD B2 109 110 111, iM 112 8, iD B5 111 112 113, iM 4 113] .ret)))) (jS [iM 114 7, iM 115 8, iD .ixS 114 115 116, iM 14 116] (jS [iM 117 7, iM 118 8, jK B5 118 1 119,
 iD .ixS 117 119 120, iM 15 120] (.seq .skip (.block 5 (.loop (.seq (jS [iM 121 9, iM 122 0, iU .lenS 122 123, iD B3 121 123 124] (.ite (.t 124) .skip (.exit 5)))
 (.seq (.block 6 (jS [iM 127 0, iM 128 9, iD .ixS 127 128 129, iM 130 14, iD B1 129 130 131, iM 132 131, jA .mv 0 133 132, jA .mv 9 134 132, iG B5 [.t 134, cI 1] 135 132 true,
 iG .ixS [.t 133, .t 135] 136 132 true, jA .mv 15 137 132, iG B1 [.t 136, .t 137] 138 132 true, jQ 132 138 139] (jI 139 (.seq (jS [jC 2 16]
 (.block 7 (.loop (.seq (jS [iM 140 16, iM 141 7, iU .lenS 141 142, iD B3 140 142 143] (.ite (.t 143) .skip (.exit 7))) (.seq (.block 8 (.seq (.any [] [(iM 146 0, 0, []), (iM 147 9, 0, []),
 (iM 148 16, 0, []), (iD B5 147 148 149, 0, []), (iD .ixS 146 149 150, 0, []), (iM 151 7, 0, []), (iM 152 8, 0, []), (iM 153 16, 0, []), (iD B5 152 153 154, 0, []), (iD .ixS 151 154 155, 0, []),
 (iD B6 150 155 156, 0, [])]) (jI 156 (.exit 6)))) (.ops [iM 144 16, jK B2 144 1 145, iM 16 145])))))) (jS [iM 157 9, iM 158 8, iD B5 157 158 159, iM 4 159] .ret))))) (.ops [iM 125 9, jK B2 125 1 126, iM 9 126]))))))))) (jS [iJ .mv [.c (.pv (.i .i64 (-1)))] 4] .ret)))))))))))))))))
theorem fn86 : A7 Try.prog 86 = some (187, [.t 4], ir86) := by kernel_rfl
def ir88 : C := (jS [iU .box 1 4, jC 0 6, iJ .mv [.c zF] 7] (jS [iM 12 0, iU .len 12 13, iM 8 13] (jS [iM 14 8, jC 0 9, iM 10 14]
 (.seq (.block 0 (.loop (.seq (jS [iM 15 9, iM 16 10, iD B3 15 16 17] (.ite (.t 17) .skip (.exit 0))) (.block 1 (jS [iM 18 9, iM 19 10, iD B2 18 19 20, iU (.cvI .u64) 20 21,
 iJ (.bin .shr) [.t 21, .c (.pv (.i .u64 1))] 22, iU (.cvI .i64) 22 23, iM 11 23] (.seq (.any [30] [(iM 24 2, 0, [30]), (iM 25 0, 0, [30]), (iM 26 11, 0, [30]), (iD (.iaS 15) 25 26 27, 1, [30]),
 (iU (.ld 15 true) 27 28, 1, [30]), (iU L2 4 29, 1, [30]), (iJ .callv [.t 24, .t 28, .t 29] 30, 1, [30]), (jK B3 30 0 31, 0, [])]) (.ite (.t 31) (.ops [iM 32 11, jK B2 32 1 33,
 iM 9 33]) (.ops [iM 34 11, iM 10 34])))))))) (.seq (.any [46] [(iM 35 9, 0, [46]), (iM 36 9, 0, [46]), (iM 37 8, 0, [46]), (iD B3 36 37 38, 0, [46]), (iM 39 38, 0, [46]),
 (jA .mv 2 40 39, 0, [46]), (jA .mv 0 41 39, 0, [46]), (jA .mv 9 42 39, 0, [46]), (iG (.iaS 15) [.t 41, .t 42] 43 39 true, 1, [46]), (jA (.ld 15 true) 43 44 39, 1, [46]),
 (jA L2 4 45 39, 1, [46]), (iG .callv [.t 40, .t 44, .t 45] 46 39 true, 1, [46]), (iG B1 [.t 46, cI 0] 47 39 true, 0, []), (jQ 39 47 48, 0, [46]), (iM 6 35, 0, []),
 (iM 7 48, 0, [])]) .ret)))))
theorem fn88 : A7 Try.prog 88 = some (49, [.t 6, .t 7], ir88) := by kernel_rfl
def ir89 : C := (jS [iU .box 0 2, iU .box 1 3, jC 0 4] (jS [jF 0 2 5, iU L2 5 6, iU L2 3 7, iD (.call 90) 6 7 8, iM 4 8] .ret))
theorem fn89 : A7 Try.prog 89 = some (9, [.t 4], ir89) := by kernel_rfl
def ir90 : C := (jS [iU .box 0 2, iU .box 1 3, jC 0 4] (.seq (.block 0 (jS [iU L2 2 6, iU L2 3 7, iD (.call 72) 6 7 8, iM 5 8]
 (.ite (.t 5) (jS [iJ .mv [.c (.pv (.i .i64 (-1)))] 4] .ret) (jS [iU L2 3 10, iU L2 2 11, iD (.call 72) 10 11 12, iM 9 12] (jI 9 (jS [jC 1 4] .ret)))))) (jS [jC 0 4] .ret)))
theorem fn90 : A7 Try.prog 90 = some (13, [.t 4], ir90) := by kernel_rfl
def ir93 : C := (jS [iU .box 1 3, jC 0 4] (.seq (jS [iM 6 0, iU .len 6 7, jC 0 8] (.block 0 (.loop (jS [iD B3 8 7 9] (.seq (.ite (.t 9) .skip (.exit 0))
 (.seq (.block 1 (jS [iM 10 8, iM 5 10] (.seq (.any [] [(iU L2 3 11, 1, []), (iM 12 0, 0, []), (iM 13 5, 0, []), (iD (.iaS 2) 12 13 14, 1, []), (iU L2 14 15, 1, []),
 (iD (.eqv false [.int .i64, .int .u32]) 11 15 16, 0, [])]) (jI 16 (jS [iM 17 5, iM 4 17] .ret))))) (.ops [jK B2 8 1 18, iM 8 18])))))))
 (jS [iJ .mv [.c (.pv (.i .i64 (-1)))] 4] .ret)))
theorem fn93 : A7 Try.prog 93 = some (19, [.t 4], ir93) := by kernel_rfl
def ir96 : C := (jS [jC 0 4] (jS [iM 5 0, iM 6 1, iD (.call 103) 5 6 7, iM 4 7] .ret))
theorem fn96 : A7 Try.prog 96 = some (8, [.t 4], ir96) := by kernel_rfl
def ir97 : C := (jS [iJ .mv [.c zF] 2] (.seq (.block 0 (jS [iM 4 0, iJ B7 [.c (.pv (.i .i32 0)), .t 4] 5, iM 6 5, jA .mv 0 7 6, iG B3 [.t 7, .c (.pv (.i .i32 55296))] 8 6 true,
 jQ 6 8 9, iM 3 9] (.ite (.t 3) (jS [iJ .mv [.c zT] 2] .ret) (jS [iM 11 0, iJ B3 [.c (.pv (.i .i32 57343)), .t 11] 12, iM 13 12, jA .mv 0 14 13,
 iG B7 [.t 14, .c (.pv (.i .i32 1114111))] 15 13 true, jQ 13 15 16, iM 10 16] (jI 10 (jS [iJ .mv [.c zT] 2] .ret)))))) (jS [iJ .mv [.c zF] 2]
 .ret)))
theorem fn97 : A7 Try.prog 97 = some (17, [.t 2], ir97) := by kernel_rfl
def ir103 : C := (jS [jC 0 4] (jS [iM 5 0, iM 6 1, iD (.call 106) 5 6 7, iM 4 7] .ret))
theorem fn103 : A7 Try.prog 103 = some (8, [.t 4], ir103) := by kernel_rfl
end Go.Proofs.Ythmjebkldgdeiaa.Fw
