/- The functions of the program in the small language, each checked against the program. -/
import Derived.Test.YthleeikkpjiicaaDoorFwD
import Derived.Test.YthleeikkpjiicaaDoorProg
import Derived.ProofKit
set_option linter.unusedVariables false
set_option linter.unusedSimpArgs false
set_option linter.unusedSectionVars false
set_option maxRecDepth 100000
namespace Go.Proofs.YthleeikkpjiicaaDoor.Fw
open Go.Proofs
theorem mixed : Tryd.prog.follows .mixedOrders = true := by kernel_rfl
def ir4 : C := (jS [iU .box 1 4, iJ (.new zF) [] 6] (.seq (.anyP [7, 8] [(iU (.iaC 0) 4 17, 0, [7, 8], [], 0), (iU L2 17 18, 1, [7, 8], [], 1), (iU (.iaC 2) 4 19, 0, [7, 8], [], 2),
 (iU L2 19 20, 1, [7, 8], [], 3), (iJ (.new (.agg [zI, zU])) [] 7, 1, [7, 8], [], 4), (iJ (.new (.agg [zI, zU])) [] 8, 1, [7, 8], [], 5), (jW 2 7 18, 2, [], [3], 6),
 (jW 2 8 20, 2, [], [], 7)]) (.seq (jS [iJ (.call 10) [] 21, iU U1 21 22, iM 23 22, jB .mv 0 24 23, jB (.call 11) 24 25 23, jB U1 25 26 23,
 jP 23 26 27] (jI 27 (jS [iJ (.call 10) [] 28, jW 1 6 28] .ret))) (jS [iM 29 0, iU L2 7 30, iD (.call 14) 29 30 31, iM 9 31]
 (.seq (jS [iM 32 9, iM 33 0, iU L2 7 34, iD (.call 16) 33 34 35, iD (.call 15) 32 35 36, iU U1 36 37] (jI 37 (jS [iO S1 [.t 6, .c zF]] .ret))) (jS [iM 38 9,
 iU (.call 13) 38 39, iM 40 9, iU (.call 17) 40 41, iM 10 39, iM 11 41] (.seq (jS [iM 42 10, iU .len 42 43, iM 44 11, iU .len 44 45, iD B6 43 45 46]
 (jI 46 (jS [iO S1 [.t 6, .c zF]] .ret))) (.seq (jS [iM 47 10, iU .len 47 48, jC 0 49] (.block 0 (.loop (jS [iD B3 49 48 50] (.seq (.ite (.t 50) .skip
 (.exit 0)) (.seq (.block 1 (jS [iM 51 49, iM 12 51] (.seq (.any [] [(iM 52 10, 0, []), (iM 53 12, 0, []), (iD (.iaS 1) 52 53 54, 1, []), (iU L1 54 55, 1, []), (iM 56 11, 0, []),
 (iM 57 12, 0, []), (iD (.iaS 1) 56 57 58, 1, []), (iU L1 58 59, 1, []), (iD B6 55 59 60, 0, [])]) (jI 60 (jS [iO S1 [.t 6, .c zF]] .ret))))) (.ops [jK B2 49 1 61,
 iM 49 61]))))))) (jS [iM 62 0, iU L2 8 63, iD (.call 18) 62 63 64, iJ (.new zN) [] 13, jW 1 13 64] (jS [iM 65 2, iU (.cvI .u64) 65 66,
 iJ (.bin .rem) [.t 66, .c (.pv (.i .u64 20))] 67, iU (.cvI .i64) 67 68, iJ B2 [cI 1, .t 68] 69, iJ (.new zI) [] 14, iJ (.new zI) [] 15, iO S1 [.t 14, cI 0], jW 1 15 69]
 (.seq (jS [iM 70 0, iU L2 8 71, iD (.call 19) 70 71 72] (.block 2 (.rng (.t 72) [73] (.ops [iJ (.new (.agg [zI, zU, zI, zU, zS, zI, zU, zV])) [] 16, jW 15 16 73])
 (.block 3 (.seq (.seq (.any [] [(iU L1 14 74, 1, []), (iU L1 13 75, 1, []), (iU .len 75 76, 1, []), (iD B8 74 76 77, 0, []), (iM 78 77, 0, []), (jB (.ld 15 true) 16 79 78, 1, []),
 (jB L1 13 80 78, 1, []), (jB L1 14 81 78, 1, []), (iG (.iaS 15) [.t 80, .t 81] 82 78 false, 1, []), (jB (.ld 15 true) 82 83 78, 1, []),
 (iG (.eqv true [.int .i64, .int .u32, .int .i64, .int .u32, .str, .int .i64, .int .u32, .int .u32, .int .u32, .int .u32, .int .u32, .int .u32, .int .u32, .int .u32, .int .u32]) [.t 79, .t 83] 84 78 false, 0, []),
 (jP 78 84 85, 0, [])]) (jI 85 (jS [iO S1 [.t 6, .c zF]] .ret))) (jS [iU L1 14 86, jK B2 86 1 87, jW 1 14 87]
 (jS [iU L1 14 88, iU L1 15 89, iD B1 88 89 90] (jI 90 (.exit 2))))))))) (jS [iU L1 14 91, iU L1 15 92, iU L1 13 93, iU .len 93 94, iD .mn 92 94 95, iD B1 91 95 96,
 jW 1 6 96] .ret))))))))))))
theorem fn4 : Bc Tryd.prog 4 = some (97, [.c 6 1 false], ir4) := by kernel_rfl
def ir10 : C := (jS [iJ .mv [.c zF] 0] (jS [iJ (.call 35) [cI 2, .c (.pv (.i .u32 1))] 3,
 iJ (.bld [2, 2, 1, 2, 8]) [.t 3, .c (.agg [zI, zU]), .c (.pv (.s [97])), .c (.agg [zI, zU]), .c zV] 4, iJ (.call 23) [.c zN, .t 4] 5, iJ (.call 35) [cI 1, .c (.pv (.i .u32 1))] 6,
 iJ (.bld [2, 2, 1, 2, 8]) [.t 6, .c (.agg [zI, zU]), .c (.pv (.s [97])), .c (.agg [zI, zU]), .c zV] 7, iD (.call 23) 5 7 8, iM 1 8] (jS [iM 9 1, iJ (.bld [1, 1]) [cI 0, .c zU] 10,
 iD (.call 14) 9 10 11, iU (.call 13) 11 12, iM 2 12] (jS [iM 13 1, iU .len 13 14, jK B1 14 2 15, iM 16 15, jA .mv 2 17 16, jA .len 17 18 16,
 iG B1 [.t 18, cI 2] 19 16 true, jQ 16 19 20, iM 21 20, jA .mv 2 22 21, iG (.iaS 1) [.t 22, cI 0] 23 21 true, jA L1 23 24 21,
 iG B1 [.t 24, .c (.pv (.s [97]))] 25 21 true, jQ 21 25 26, iM 27 26, jA .mv 2 28 27, iG (.iaS 1) [.t 28, cI 1] 29 27 true, jA L1 29 30 27,
 iG B1 [.t 30, .c (.pv (.s [97, 126, 50, 46, 49]))] 31 27 true, jQ 27 31 32, iM 33 32, jA .mv 1 34 33, iG (.iaS 15) [.t 34, cI 0] 35 33 true, jA (.ld 15 true) 35 36 33,
 jA (.call 28) 36 37 33, jQ 33 37 38, iM 0 38] .ret))))
theorem fn10 : Bc Tryd.prog 10 = some (39, [.t 0], ir10) := by kernel_rfl
def ir11 : C := (jS [iJ .mv [.c zF] 2] (.seq (jS [iM 5 0, iU .len 5 6, jK B4 6 40 7, iM 8 7, jB .mv 0 9 8, jB (.call 22) 9 10 8, jB U1 10 11 8,
 jP 8 11 12] (jI 12 (jS [iJ .mv [.c zF] 2] .ret))) (.seq (jS [iM 13 0, iU .len 13 14, jC 0 15]
 (.block 0 (.loop (jS [iD B3 15 14 16] (.seq (.ite (.t 16) .skip (.exit 0)) (.seq (.block 1 (jS [iD (.iaS 15) 13 15 17, iU (.ld 15 true) 17 18,
 iJ (.new (.agg [zI, zU, zI, zU, zS, zI, zU, zV])) [] 4, jW 15 4 18] (jS [jF 4 4 19, iU L1 19 20, iU .lenS 20 21, jK B4 21 40 22]
 (jI 22 (jS [iJ .mv [.c zF] 2] .ret))))) (.ops [jK B2 15 1 23, iM 15 23]))))))) (jS [iJ .mv [.c zT] 2] .ret))))
theorem fn11 : Bc Tryd.prog 11 = some (24, [.t 2], ir11) := by kernel_rfl
def ir12 : C := (jS [iU .box 0 1, iJ .mv [.c zF] 2] (.seq (jS [jC 0 3] (.block 0 (.loop (.seq (jS [iM 4 3, jK B3 4 8 5] (.ite (.t 5) .skip (.exit 0)))
 (.seq (.block 1 (jS [iM 8 3, jF 7 1 9, iD (.iaA 8 1) 9 8 10, iU L1 10 11, iJ B6 [.t 11, .c zU] 12] (jI 12 (jS [iJ .mv [.c zF] 2] .ret)))) (.ops [iM 6 3,
 jK B2 6 1 7, iM 3 7])))))) (jS [iJ .mv [.c zT] 2] .ret)))
theorem fn12 : Bc Tryd.prog 12 = some (13, [.t 2], ir12) := by kernel_rfl
def ir13 : C := (jS [iJ .mv [.c zN] 2] (jS [iJ .mv [.c zN] 3] (.seq (jS [iM 6 0, iU .len 6 7, jC 0 8] (.block 0 (.loop (jS [iD B3 8 7 9]
 (.seq (.ite (.t 9) .skip (.exit 0)) (.seq (.block 1 (jS [iM 10 8, iD (.iaS 15) 6 8 11, iU (.ld 15 true) 11 12, iJ (.new (.agg [zI, zU, zI, zU, zS, zI, zU, zV])) [] 5, iM 4 10,
 jW 15 5 12] (.seq (.any [] [(iM 13 4, 0, []), (jK B4 13 0 14, 0, []), (iM 15 14, 0, []), (jA .mv 0 16 15, 0, []), (jA .mv 4 17 15, 0, []),
 (iG B5 [.t 17, cI 1] 18 15 true, 0, []), (iG (.iaS 15) [.t 16, .t 18] 19 15 true, 1, []), (jL 4 19 20 15, 0, []), (jA L1 20 21 15, 1, []), (jL 4 5 22 15, 0, []),
 (jA L1 22 23 15, 1, []), (iG B1 [.t 21, .t 23] 24 15 true, 0, []), (jQ 15 24 25, 0, [])]) (.ite (.t 25) (.ops [iM 26 3, jF 4 5 27, iU L1 27 28, jF 0 5 29,
 iU L2 29 30, iD (.call 36) 28 30 31, iU (.bsl 1) 31 32, iD (.app 1 16) 26 32 33, iM 3 33]) (.ops [iM 34 3, jF 4 5 35, iU L1 35 36, iU (.bsl 1) 36 37, iD (.app 1 16) 34 37 38, iM 3 38])))))
 (.ops [jK B2 8 1 39, iM 8 39]))))))) (jS [iM 40 3, iM 2 40] .ret))))
theorem fn13 : Bc Tryd.prog 13 = some (41, [.t 2], ir13) := by kernel_rfl
def ir14 : C := (jS [iU .box 1 3, iJ .mv [.c zN] 4] (jS [iJ .mv [.c zN] 5] (.seq (jS [iM 8 0, iU .len 8 9, jC 0 10] (.block 0 (.loop (jS [iD B3 10 9 11]
 (.seq (.ite (.t 11) .skip (.exit 0)) (.seq (.block 1 (jS [iD (.iaS 15) 8 10 12, iU (.ld 15 true) 12 13, iJ (.new (.agg [zI, zU, zI, zU, zS, zI, zU, zV])) [] 7, jW 15 7 13]
 (jS [jF 2 7 14, iU L2 14 15, iU L2 3 16, iD (.eqv false [.int .i64, .int .u32]) 15 16 17, iM 18 17, jA (.ld 15 true) 7 19 18, jA (.call 28) 19 20 18,
 jQ 18 20 21] (jI 21 (.ops [iM 22 5, iU (.ld 15 true) 7 23, iU (.bsl 15) 23 24, iD (.app 15 96) 22 24 25, iM 5 25]))))) (.ops [jK B2 10 1 26,
 iM 10 26]))))))) (jS [iM 27 5, iJ (.call 37) [.t 27, .c (.fn (.func 38) [])] 28] (jS [iM 29 5, iM 4 29] .ret)))))
theorem fn14 : Bc Tryd.prog 14 = some (30, [.t 4], ir14) := by kernel_rfl
def ir15 : C := (jS [iJ .mv [.c zF] 4] (.seq (jS [iM 6 0, iU .len 6 7, iM 8 1, iU .len 8 9, iD B6 7 9 10] (jI 10 (jS [iJ .mv [.c zF] 4] .ret)))
 (.seq (jS [jC 0 5] (.block 0 (.loop (.seq (jS [iM 11 5, iM 12 0, iU .len 12 13, iD B3 11 13 14] (.ite (.t 14) .skip (.exit 0)))
 (.seq (.block 1 (.seq (.any [] [(iM 17 0, 0, []), (iM 18 5, 0, []), (iD (.iaS 15) 17 18 19, 1, []), (iU (.ld 15 true) 19 20, 1, []), (iM 21 1, 0, []), (iM 22 5, 0, []),
 (iD (.iaS 15) 21 22 23, 1, []), (iU (.ld 15 true) 23 24, 1, []),
 (iD (.eqv true [.int .i64, .int .u32, .int .i64, .int .u32, .str, .int .i64, .int .u32, .int .u32, .int .u32, .int .u32, .int .u32, .int .u32, .int .u32, .int .u32, .int .u32]) 20 24 25, 0, [])])
 (jI 25 (jS [iJ .mv [.c zF] 4] .ret)))) (.ops [iM 15 5, jK B2 15 1 16, iM 5 16])))))) (jS [iJ .mv [.c zT] 4] .ret))))
theorem fn15 : Bc Tryd.prog 15 = some (26, [.t 4], ir15) := by kernel_rfl
def ir16 : C := (jS [iU .box 1 3, iJ .mv [.c zN] 4] (jS [iJ .mv [.c zN] 5] (.seq (jS [jC 0 6] (.block 0 (.loop (.seq (jS [iM 9 6, iM 10 0, iU .len 10 11,
 iD B3 9 11 12] (.ite (.t 12) .skip (.exit 0))) (.seq (.block 1 (.seq (.seq (.any [27] [(iM 15 0, 0, [27]), (iM 16 6, 0, [27]), (iD (.iaS 15) 15 16 17, 1, [27]), (jF 2 17 18, 0, [27]),
 (iU L2 18 19, 1, [27]), (iU L2 3 20, 1, [27]), (iD (.eqv true [.int .i64, .int .u32]) 19 20 21, 0, [27]), (iM 22 21, 0, [27]), (jB .mv 0 23 22, 0, [27]), (jB .mv 6 24 22, 0, [27]),
 (iG (.iaS 15) [.t 23, .t 24] 25 22 false, 1, [27]), (jB (.ld 15 true) 25 26 22, 1, [27]), (jB (.call 12) 26 27 22, 3, [27]), (jB U1 27 28 22, 0, []),
 (jP 22 28 29, 0, [27])]) (jI 29 (.exit 1))) (jS [iM 30 5, iU .len 30 31, iM 7 31] (.seq (.block 2 (.loop (.seq (.seq (.any [] [(iM 32 7, 0, []),
 (jK B4 32 0 33, 0, []), (iM 34 33, 0, []), (jA .mv 0 35 34, 0, []), (jA .mv 6 36 34, 0, []), (iG (.iaS 15) [.t 35, .t 36] 37 34 true, 1, []), (jL 4 37 38 34, 0, []),
 (jA L1 38 39 34, 1, []), (jA .mv 5 40 34, 0, []), (jA .mv 7 41 34, 0, []), (iG B5 [.t 41, cI 1] 42 34 true, 0, []), (iG (.iaS 15) [.t 40, .t 42] 43 34 true, 1, []),
 (jL 4 43 44 34, 0, []), (jA L1 44 45 34, 1, []), (iG B3 [.t 39, .t 45] 46 34 true, 0, []), (jQ 34 46 47, 0, [])]) (.ite (.t 47) .skip (.exit 2)))
 (.block 3 (.ops [iM 48 7, jK B5 48 1 49, iM 7 49]))))) (.seq (.anyF [54, 58] [(iM 50 0, 0, [54, 58]), (iM 51 6, 0, [54, 58]), (iD (.iaS 15) 50 51 52, 1, [54, 58]),
 (iU (.ld 15 true) 52 53, 1, [54, 58]), (iU (.bsl 15) 53 54, 1, [54, 58]), (iM 55 5, 0, [54, 58]), (iM 56 7, 0, [54, 58]), (iD (.slc 15 true false false) 55 56 57, 1, [54, 58]),
 (iD (.app 15 96) 54 57 58, 2, [58]), (iM 8 58, 0, [])]) (.ops [iJ (.bsl 15) [] 59, iM 60 5, iM 61 7, iD (.slx 15) 60 61 62, iD (.app 15 96) 59 62 63, iM 64 8, iD (.app 15 96) 63 64 65, iM 5 65]))))))
 (.ops [iM 13 6, jK B2 13 1 14, iM 6 14])))))) (jS [iM 66 5, iM 4 66] .ret))))
theorem fn16 : Bc Tryd.prog 16 = some (67, [.t 4], ir16) := by kernel_rfl
def ir17 : C := (jS [iJ .mv [.c zN] 2] (jS [iJ .mv [.c zN] 3] (.seq (jS [jC 0 4] (.block 0 (.loop (.seq (jS [iM 6 4, iM 7 0, iU .len 7 8, iD B3 6 8 9]
 (.ite (.t 9) .skip (.exit 0))) (.seq (.block 1 (jS [iM 12 0, iM 13 4, iD (.iaS 15) 12 13 14, jF 4 14 15, iU L1 15 16, iM 5 16] (.seq (jS [iM 17 4, jK B4 17 0 18,
 iM 19 18, jA .mv 0 20 19, jA .mv 4 21 19, iG B5 [.t 21, cI 1] 22 19 true, iG (.iaS 15) [.t 20, .t 22] 23 19 true, jL 4 23 24 19, jA L1 24 25 19, jA .mv 5 26 19,
 iG B1 [.t 25, .t 26] 27 19 true, jQ 19 27 28] (jI 28 (.ops [iM 29 5, iM 30 0, iM 31 4, iD (.iaS 15) 30 31 32, jF 0 32 33, iU L2 33 34, iD (.call 40) 29 34 35,
 iM 5 35]))) (.ops [iM 36 3, iM 37 5, iU (.bsl 1) 37 38, iD (.app 1 16) 36 38 39, iM 3 39])))) (.ops [iM 10 4, jK B2 10 1 11, iM 4 11])))))) (jS [iM 40 3, iM 2 40] .ret))))
theorem fn17 : Bc Tryd.prog 17 = some (41, [.t 2], ir17) := by kernel_rfl
def ir18 : C := (jS [iU .box 1 3, iJ .mv [.c zN] 4] (jS [iJ .mv [.c zN] 5] (.seq (jS [jC 0 6] (.block 0 (.loop (.seq (jS [iM 7 6, iM 8 0, iU .len 8 9,
 iD B3 7 9 10] (.ite (.t 10) .skip (.exit 0))) (.seq (.block 1 (.seq (.any [25] [(iM 13 0, 0, [25]), (iM 14 6, 0, [25]), (iD (.iaS 15) 13 14 15, 1, [25]), (jF 5 15 16, 0, [25]),
 (iU L2 16 17, 1, [25]), (iU L2 3 18, 1, [25]), (iD (.eqv false [.int .i64, .int .u32]) 17 18 19, 0, [25]), (iM 20 19, 0, [25]), (jA .mv 0 21 20, 0, [25]), (jA .mv 6 22 20, 0, [25]),
 (iG (.iaS 15) [.t 21, .t 22] 23 20 true, 1, [25]), (jA (.ld 15 true) 23 24 20, 1, [25]), (jA (.call 12) 24 25 20, 3, [25]), (jQ 20 25 26, 0, [])])
 (jI 26 (.ops [iM 27 5, iM 28 0, iM 29 6, iD (.iaS 15) 28 29 30, iU (.ld 15 true) 30 31, iU (.bsl 15) 31 32, iD (.app 15 96) 27 32 33, iM 5 33])))) (.ops [iM 11 6, jK B2 11 1 12,
 iM 6 12])))))) (jS [iM 34 5, iM 4 34] .ret))))
theorem fn18 : Bc Tryd.prog 18 = some (35, [.t 4], ir18) := by kernel_rfl
def ir19 : C := (jS [iU .box 0 2, iU .box 1 3, iJ .mv [.c (.pv (.v .nilFunc))] 4] (jS [iD (.mkf (.func 41)) 2 3 5, iM 4 5] .ret))
theorem fn19 : Bc Tryd.prog 19 = some (6, [.t 4], ir19) := by kernel_rfl
def ir22 : C := (jS [iJ .mv [.c zF] 2] (.seq (jS [jC 1 3] (.block 0 (.loop (.seq (jS [iM 4 3, iM 5 0, iU .len 5 6, iD B3 4 6 7] (.ite (.t 7) .skip (.exit 0)))
 (.seq (.block 1 (.seq (.any [21] [(iM 10 0, 0, [21]), (iM 11 3, 0, [21]), (jK B5 11 1 12, 0, [21]), (iD (.iaS 15) 10 12 13, 1, [21]), (jF 0 13 14, 0, [21]), (iU L2 14 15, 1, [21]),
 (iM 16 0, 0, [21]), (iM 17 3, 0, [21]), (iD (.iaS 15) 16 17 18, 1, [21]), (jF 0 18 19, 0, [21]), (iU L2 19 20, 1, [21]), (iD (.call 46) 15 20 21, 3, [21]), (iU U1 21 22, 0, [])])
 (jI 22 (jS [iJ .mv [.c zF] 2] .ret)))) (.ops [iM 8 3, jK B2 8 1 9, iM 3 9])))))) (jS [iJ .mv [.c zT] 2] .ret)))
theorem fn22 : Bc Tryd.prog 22 = some (23, [.t 2], ir22) := by kernel_rfl
def ir23 : C := (jS [iU .box 1 3, iJ .mv [.c zN] 4] (jS [iM 8 0, jF 0 3 9, iU L2 9 10, iD (.call 43) 8 10 11, iM 7 11, iU (.ext 0) 7 12, iU (.ext 1) 7 13, iM 5 12, iM 6 13]
 (.seq (jS [iM 14 6] (jI 14 (jS [iM 15 0, iU (.call 42) 15 16, iM 4 16] .ret))) (.seq (.any [18, 21, 22] [(iM 17 0, 0, [18, 21, 22]),
 (iU (.call 42) 17 18, 1, [18, 21, 22]), (iM 19 5, 0, [18, 21, 22]), (iU (.ld 15 true) 3 20, 1, [18, 21, 22]), (iU (.bsl 15) 20 21, 1, [18, 21, 22]), (iJ (.call 45) [.t 18, .t 19, .t 21] 22, 3, [22]),
 (iM 4 22, 0, [])]) .ret))))
theorem fn23 : Bc Tryd.prog 23 = some (23, [.t 4], ir23) := by kernel_rfl
def ir28 : C := (jS [iU .box 0 1, iJ .mv [.c zF] 2] (jS [jF 7 1 3, iU L8 3 4, iJ (.bldV 8 1) [.c zU, .c zU, .c zU, .c zU, .c zU, .c zU, .c zU, .c zU] 5,
 iD (.eqv false [.int .u32, .int .u32, .int .u32, .int .u32, .int .u32, .int .u32, .int .u32, .int .u32]) 4 5 6, iM 2 6] .ret))
theorem fn28 : Bc Tryd.prog 28 = some (7, [.t 2], ir28) := by kernel_rfl
def ir35 : C := (jS [iJ (.new (.agg [zI, zU])) [] 4] (jS [iM 5 0, iM 6 1, iD (.bld [1, 1]) 5 6 7, jW 2 4 7] .ret))
theorem fn35 : Bc Tryd.prog 35 = some (8, [.c 4 2 true], ir35) := by kernel_rfl
def ir36 : C := (jS [iU .box 1 3, iJ .mv [.c zS] 4] (.seq (.any [9, 15] [(iM 5 0, 0, [9, 15]), (iJ B2 [.t 5, .c (.pv (.s [126]))] 6, 0, [9, 15]), (jF 0 3 7, 0, [9, 15]),
 (iU L1 7 8, 1, [9, 15]), (iU (.call 53) 8 9, 1, [9, 15]), (iD B2 6 9 10, 0, [15]), (iJ B2 [.t 10, .c (.pv (.s [46]))] 11, 0, [9, 15]), (jF 1 3 12, 0, [9, 15]), (iU L1 12 13, 1, [9, 15]),
 (iU (.cvI .u64) 13 14, 0, [9, 15]), (jK (.call 54) 14 10 15, 2, [15]), (iD B2 11 15 16, 0, [9]), (iM 4 16, 0, [])]) .ret))
theorem fn36 : Bc Tryd.prog 36 = some (17, [.t 4], ir36) := by kernel_rfl
def ir37 : C := (.ops [iM 4 0, iM 5 0, iU .len 5 6, iM 7 1, iJ (.call 55) [.t 4, .t 6, .t 7] 8])
theorem fn37 : Bc Tryd.prog 37 = some (9, [], ir37) := by kernel_rfl
def ir38 : C := (jS [iU .box 0 2, iU .box 1 3, jC 0 4] (jS [jF 4 2 5, iU L1 5 6, jF 4 3 7, iU L1 7 8, iD (.call 39) 6 8 9, iM 4 9] .ret))
theorem fn38 : Bc Tryd.prog 38 = some (10, [.t 4], ir38) := by kernel_rfl
def ir39 : C := (jS [jC 0 4] (jS [iM 7 0, iU (.call 56) 7 8, iM 5 8] (jS [iM 9 1, iU (.call 56) 9 10, iM 6 10] (.seq (jS [iM 11 5]
 (jI 11 (.seq (jS [iM 12 6] (jI 12 (jS [jC 0 4] .ret))) (jS [iJ .mv [.c (.pv (.i .i64 (-1)))] 4] .ret)))) (.seq (jS [iM 13 6]
 (jI 13 (jS [jC 1 4] .ret))) (.seq (jS [iM 14 0, iM 15 1, iD B3 14 15 16] (jI 16 (jS [iJ .mv [.c (.pv (.i .i64 (-1)))] 4] .ret)))
 (.seq (jS [iM 17 0, iM 18 1, iD B4 17 18 19] (jI 19 (jS [jC 1 4] .ret))) (jS [jC 0 4] .ret))))))))
theorem fn39 : Bc Tryd.prog 39 = some (20, [.t 4], ir39) := by kernel_rfl
def ir40 : C := (jS [iU .box 1 3, iJ .mv [.c zS] 4] (.seq (.any [9, 15] [(iM 5 0, 0, [9, 15]), (iJ B2 [.t 5, .c (.pv (.s [126]))] 6, 0, [9, 15]), (jF 0 3 7, 0, [9, 15]),
 (iU L1 7 8, 1, [9, 15]), (iU (.call 53) 8 9, 1, [9, 15]), (iD B2 6 9 10, 0, [15]), (iJ B2 [.t 10, .c (.pv (.s [46]))] 11, 0, [9, 15]), (jF 1 3 12, 0, [9, 15]), (iU L1 12 13, 1, [9, 15]),
 (iU (.cvI .i64) 13 14, 0, [9, 15]), (iU (.call 53) 14 15, 2, [15]), (iD B2 11 15 16, 0, [9]), (iM 4 16, 0, [])]) .ret))
theorem fn40 : Bc Tryd.prog 40 = some (17, [.t 4], ir40) := by kernel_rfl
def ir41 : C := (jS [iU L1 1 6, iU .len 6 7, jC 0 8] (.block 0 (.loop (jS [iD B3 8 7 9] (.seq (.ite (.t 9) .skip (.exit 0)) (.seq (.block 1 (jS [iD (.iaS 15) 6 8 10,
 iU (.ld 15 true) 10 11, iJ (.new (.agg [zI, zU, zI, zU, zS, zI, zU, zV])) [] 5, jW 15 5 11] (jS [jF 5 5 12, iU L2 12 13, iU L2 2 14,
 iD (.eqv false [.int .i64, .int .u32]) 13 14 15, iM 16 15, jA (.ld 15 true) 5 17 16, jA (.call 28) 17 18 16, jQ 16 18 19, iM 20 19, jA .mv 0 21 20,
 jA (.ld 15 true) 5 22 20, iG .yv [.t 21, .t 22] 23 20 true, jA U1 23 24 20, jQ 20 24 25] (jI 25 .ret)))) (.ops [jK B2 8 1 26, iM 8 26])))))))
theorem fn41 : Bc Tryd.prog 41 = some (27, [], ir41) := by kernel_rfl
def ir42 : C := (jS [iJ .mv [.c zN] 2] (.seq (jS [iM 3 0, iU (.eqn false) 3 4] (jI 4 (jS [iJ .mv [.c zN] 2] .ret))) (jS [iJ (.bsl 15) [] 5, iM 6 0,
 iD (.app 15 96) 5 6 7, iM 2 7] .ret)))
theorem fn42 : Bc Tryd.prog 42 = some (8, [.t 2], ir42) := by kernel_rfl
def ir43 : C := (jS [iU .box 1 3, jC 0 4, iJ .mv [.c zF] 5] (jS [iM 6 0, iU L2 3 7, iJ (.call 57) [.t 6, .t 7, .c (.fn (.func 58) [])] 8, iU (.ext 0) 8 9, iU (.ext 1) 8 10,
 iM 4 9, iM 5 10] .ret))
theorem fn43 : Bc Tryd.prog 43 = some (11, [.t 4, .t 5], ir43) := by kernel_rfl
def ir45 : C := (jS [iJ .mv [.c zN] 6] (jS [iM 10 0, iM 11 1, iD (.slv 15 true false) 10 11 12] (jS [iM 13 2, iU .len 13 14, iM 7 14] (.seq (jS [iM 15 7,
 jK B1 15 0 16] (jI 16 (jS [iM 17 0, iM 6 17] .ret))) (jS [iM 18 0, iU .len 18 19, iM 8 19] (.seq (jS [iM 20 1, iM 21 8, iD B1 20 21 22]
 (jI 22 (jS [iM 23 0, iM 24 2, iD (.app 15 96) 23 24 25, iM 6 25] .ret))) (.seq (jS [iM 26 8, iM 27 7, iD B2 26 27 28, iM 29 0, iU .cap 29 30, iD B4 28 30 31]
 (jI 31 (jS [iM 32 0, iM 33 1, iD (.slv 15 false true) 32 33 34, iM 35 8, iM 36 7, iD B2 35 36 37, iM 38 1, iD B5 37 38 39,
 iD (.apz 15 96 [.i .i64 0, .i .u32 0, .i .i64 0, .i .u32 0, .s [], .i .i64 0, .i .u32 0, .i .u32 0, .i .u32 0, .i .u32 0, .i .u32 0, .i .u32 0, .i .u32 0, .i .u32 0, .i .u32 0]) 34 39 40, iM 9 40]
 (jS [iM 41 9, iM 42 1, iD (.slv 15 true false) 41 42 43, iM 44 2, iD (.cpy 15) 43 44 45] (.seq (.any [] [(iM 46 9, 0, []), (iM 47 1, 0, []), (iM 48 7, 0, []), (iD B2 47 48 49, 0, []),
 (iD (.slv 15 true false) 46 49 50, 1, []), (iM 51 0, 0, []), (iM 52 1, 0, []), (iD (.slv 15 true false) 51 52 53, 1, []), (iD (.cpy 15) 50 53 54, 2, [])]) (jS [iM 55 9, iM 6 55] .ret)))))) (jS [iM 56 0, iM 57 8, iM 58 7, iD B2 57 58 59, iD (.slx 15) 56 59 60, iM 0 60] (.seq (jS [iM 61 2, iM 62 0, iM 63 1, iM 64 7, iD B2 63 64 65,
 iD (.slv 15 true false) 62 65 66, iD (.call 60) 61 66 67, iU U1 67 68] (jI 68 (.seq (.any [] [(iM 69 0, 0, []), (iM 70 1, 0, []), (iM 71 7, 0, []), (iD B2 70 71 72, 0, []),
 (iD (.slv 15 true false) 69 72 73, 1, []), (iM 74 0, 0, []), (iM 75 1, 0, []), (iD (.slv 15 true false) 74 75 76, 1, []), (iD (.cpy 15) 73 76 77, 2, [])]) (jS [iM 78 0, iM 79 1,
 iD (.slv 15 true false) 78 79 80, iM 81 2, iD (.cpy 15) 80 81 82] (jS [iM 83 0, iM 6 83] .ret))))) (jS [iM 84 0, iM 85 8, iD (.slv 15 true false) 84 85 86, iM 87 2,
 iD (.cpy 15) 86 87 88] (jS [iM 89 0, iM 90 1, iD (.slc 15 true false false) 89 90 91, iM 92 7, iD (.call 61) 91 92 93] (jS [iM 94 0, iM 6 94] .ret))))))))))))
theorem fn45 : Bc Tryd.prog 45 = some (95, [.t 6], ir45) := by kernel_rfl
def ir46 : C := (jS [iU .box 0 2, iU .box 1 3, iJ .mv [.c zF] 4] (jS [jF 1 2 5, iU L1 5 6, jF 1 3 7, iU L1 7 8, iD B3 6 8 9, iM 10 9, jN 1 2 11 10,
 jB L1 11 12 10, jN 1 3 13 10, jB L1 13 14 10, iG B1 [.t 12, .t 14] 15 10 false, jB .mv 15 16 10, jL 0 2 17 16, jA L1 17 18 16, jL 0 3 19 16,
 jA L1 19 20 16, iG B3 [.t 18, .t 20] 21 16 true, iG .pick [.t 16, .t 21, .c zF] 22 10 false, jP 10 22 23, iM 4 23] .ret))
theorem fn46 : Bc Tryd.prog 46 = some (24, [.t 4], ir46) := by kernel_rfl
def ir53 : C := (jS [iJ .mv [.c zS] 2] (jS [iM 3 0, iU (.call 65) 3 4, iM 2 4] .ret))
theorem fn53 : Bc Tryd.prog 53 = some (5, [.t 2], ir53) := by kernel_rfl
def ir54 : C := (jS [iJ .mv [.c zS] 4] (jS [iM 5 0, iM 6 1, iD (.call 66) 5 6 7, iM 4 7] .ret))
theorem fn54 : Bc Tryd.prog 54 = some (8, [.t 4], ir54) := by kernel_rfl
def ir55 : C := (jS [jC 20 6] (jS [iM 10 6, jC 0 7, iM 8 10] (.seq (.block 0 (.loop (.seq (jS [iM 11 8, iM 12 1, iD B7 11 12 13] (.ite (.t 13) .skip
 (.exit 0))) (.block 1 (jS [iM 14 0, iM 15 7, iM 16 8, iM 17 2, iJ (.call 67) [.t 14, .t 15, .t 16, .t 17] 18] (jS [iM 19 8, iM 7 19] (.ops [iM 20 8, iM 21 6, iD B2 20 21 22,
 iM 8 22]))))))) (jS [iM 23 0, iM 24 7, iM 25 1, iM 26 2, iJ (.call 67) [.t 23, .t 24, .t 25, .t 26] 27] (.block 2 (.loop (.seq (jS [iM 28 6, iM 29 1, iD B3 28 29 30]
 (.ite (.t 30) .skip (.exit 2))) (.block 3 (jS [iM 31 6, iJ (.bin .mul) [cI 2, .t 31] 32, jC 0 7, iM 8 32] (.seq (.block 4 (.loop (.seq (jS [iM 33 8, iM 34 1,
 iD B7 33 34 35] (.ite (.t 35) .skip (.exit 4))) (.block 5 (jS [iM 36 0, iM 37 7, iM 38 7, iM 39 6, iD B2 38 39 40, iM 41 8, iM 42 2, iJ (.call 68) [.t 36, .t 37, .t 40, .t 41, .t 42] 43]
 (jS [iM 44 8, iM 7 44] (.ops [iM 45 8, iM 46 6, iJ (.bin .mul) [cI 2, .t 46] 47, iD B2 45 47 48, iM 8 48]))))))) (.seq (jS [iM 49 7, iM 50 6, iD B2 49 50 51, iM 9 51]
 (jS [iM 52 9, iM 53 1, iD B3 52 53 54] (jI 54 (.ops [iM 55 0, iM 56 7, iM 57 9, iM 58 1, iM 59 2, iJ (.call 68) [.t 55, .t 56, .t 57, .t 58, .t 59] 60])))) (.ops [iM 61 6,
 jK (.bin .mul) 61 2 62, iM 6 62]))))))))))))
theorem fn55 : Bc Tryd.prog 55 = some (63, [], ir55) := by kernel_rfl
def ir56 : C := (jS [iJ .mv [.c zF] 2] (jS [iM 3 0, iM 4 0, iD B6 3 4 5, iM 2 5] .ret))
theorem fn56 : Bc Tryd.prog 56 = some (6, [.t 2], ir56) := by kernel_rfl
def ir57 : C := (jS [iU .box 1 4, jC 0 6, iJ .mv [.c zF] 7] (jS [iM 12 0, iU .len 12 13, iM 8 13] (jS [iM 14 8, jC 0 9, iM 10 14]
 (.seq (.block 0 (.loop (.seq (jS [iM 15 9, iM 16 10, iD B3 15 16 17] (.ite (.t 17) .skip (.exit 0))) (.block 1 (jS [iM 18 9, iM 19 10, iD B2 18 19 20, iU (.cvI .u64) 20 21,
 iJ (.bin .shr) [.t 21, .c (.pv (.i .u64 1))] 22, iU (.cvI .i64) 22 23, iM 11 23] (.seq (.any [30] [(iM 24 2, 0, [30]), (iM 25 0, 0, [30]), (iM 26 11, 0, [30]), (iD (.iaS 15) 25 26 27, 1, [30]),
 (iU (.ld 15 true) 27 28, 1, [30]), (iU L2 4 29, 1, [30]), (iJ .callv [.t 24, .t 28, .t 29] 30, 1, [30]), (jK B3 30 0 31, 0, [])]) (.ite (.t 31) (.ops [iM 32 11, jK B2 32 1 33,
 iM 9 33]) (.ops [iM 34 11, iM 10 34])))))))) (.seq (.any [46] [(iM 35 9, 0, [46]), (iM 36 9, 0, [46]), (iM 37 8, 0, [46]), (iD B3 36 37 38, 0, [46]), (iM 39 38, 0, [46]),
 (jA .mv 2 40 39, 0, [46]), (jA .mv 0 41 39, 0, [46]), (jA .mv 9 42 39, 0, [46]), (iG (.iaS 15) [.t 41, .t 42] 43 39 true, 1, [46]), (jA (.ld 15 true) 43 44 39, 1, [46]),
 (jA L2 4 45 39, 1, [46]), (iG .callv [.t 40, .t 44, .t 45] 46 39 true, 1, [46]), (iG B1 [.t 46, cI 0] 47 39 true, 0, []), (jQ 39 47 48, 0, [46]), (iM 6 35, 0, []),
 (iM 7 48, 0, [])]) .ret)))))
theorem fn57 : Bc Tryd.prog 57 = some (49, [.t 6, .t 7], ir57) := by kernel_rfl
def ir58 : C := (jS [iU .box 0 2, iU .box 1 3, jC 0 4] (jS [jF 0 2 5, iU L2 5 6, iU L2 3 7, iD (.call 59) 6 7 8, iM 4 8] .ret))
theorem fn58 : Bc Tryd.prog 58 = some (9, [.t 4], ir58) := by kernel_rfl
def ir59 : C := (jS [iU .box 0 2, iU .box 1 3, jC 0 4] (.seq (.block 0 (jS [iU L2 2 6, iU L2 3 7, iD (.call 69) 6 7 8, iM 5 8]
 (.ite (.t 5) (jS [iJ .mv [.c (.pv (.i .i64 (-1)))] 4] .ret) (jS [iU L2 3 10, iU L2 2 11, iD (.call 69) 10 11 12, iM 9 12] (jI 9 (jS [jC 1 4] .ret)))))) (jS [jC 0 4] .ret)))
theorem fn59 : Bc Tryd.prog 59 = some (13, [.t 4], ir59) := by kernel_rfl
def ir65 : C := (jS [iJ .mv [.c zS] 2] (jS [iM 3 0, jK (.call 71) 3 10 4, iM 2 4] .ret))
theorem fn65 : Bc Tryd.prog 65 = some (5, [.t 2], ir65) := by kernel_rfl
def ir66 : C := (jS [iJ .mv [.c zS] 4] (.seq (jS [iM 9 1, jK B1 9 10 10] (jI 10 (.seq (jS [iM 11 0, iJ B3 [.t 11, .c (.pv (.i .u64 100))] 12]
 (jI 12 (jS [iM 13 0, iU (.cvI .i64) 13 14, iU (.call 72) 14 15, iM 4 15] .ret))) (jS [iJ (.new (.vec 24 (List.replicate 24 (.i .u8 0)))) [] 5] (jS [iM 16 0,
 iU (.call 73) 16 17, iM 6 17] (.seq .bad (.seq .bad .ret))))))) (jS [iM 26 0, iM 27 1, iJ (.call 75) [.c zN, .t 26, .t 27, .c zF, .c zF] 28, iM 25 28, iU (.ext 0) 25 29,
 iU (.ext 1) 25 30, iM 7 29, iM 8 30] (jS [iM 31 8, iM 4 31] .ret))))
theorem fn66 : Bc Tryd.prog 66 = some (32, [.t 4], ir66) := by kernel_rfl
def ir67 : C := (jS [iM 10 1, jK B2 10 1 11, iM 8 11] (.block 0 (.loop (.seq (jS [iM 12 8, iM 13 2, iD B3 12 13 14] (.ite (.t 14) .skip (.exit 0)))
 (.seq (.block 1 (jS [iM 17 8, iM 9 17] (.block 2 (.loop (.seq (.seq (.any [32] [(iM 18 9, 0, [32]), (iM 19 1, 0, [32]), (iD B4 18 19 20, 0, [32]), (iM 21 20, 0, [32]),
 (jA .mv 3 22 21, 0, [32]), (jA .mv 0 23 21, 0, [32]), (jA .mv 9 24 21, 0, [32]), (iG (.iaS 15) [.t 23, .t 24] 25 21 true, 1, [32]), (jA (.ld 15 true) 25 26 21, 1, [32]),
 (jA .mv 0 27 21, 0, [32]), (jA .mv 9 28 21, 0, [32]), (iG B5 [.t 28, cI 1] 29 21 true, 0, [32]), (iG (.iaS 15) [.t 27, .t 29] 30 21 true, 1, [32]),
 (jA (.ld 15 true) 30 31 21, 1, [32]), (iG .callv [.t 22, .t 26, .t 31] 32 21 true, 1, [32]), (iG B3 [.t 32, cI 0] 33 21 true, 0, []), (jQ 21 33 34, 0, [32])])
 (.ite (.t 34) .skip (.exit 2))) (.seq (.block 3 (.any [] [(iM 37 0, 0, []), (iM 38 9, 0, []), (iM 39 0, 0, []), (iM 40 9, 0, []), (jK B5 40 1 41, 0, []), (iM 42 0, 0, []), (iM 43 9, 0, []),
 (jK B5 43 1 44, 0, []), (iD (.iaS 15) 42 44 45, 1, []), (iU (.ld 15 true) 45 46, 1, []), (iM 47 0, 0, []), (iM 48 9, 0, []), (iD (.iaS 15) 47 48 49, 1, []), (iU (.ld 15 true) 49 50, 1, []),
 (iD (.iaS 15) 37 38 51, 1, []), (jW 15 51 46, 2, []), (iD (.iaS 15) 39 41 52, 1, []), (jW 15 52 50, 2, [])])) (.ops [iM 35 9, jK B5 35 1 36, iM 9 36])))))))
 (.ops [iM 15 8, jK B2 15 1 16, iM 8 16]))))))
theorem fn67 : Bc Tryd.prog 67 = some (53, [], ir67) := by kernel_rfl
def ir68 : C := (.seq (jS [iM 25 2, iM 26 1, iD B5 25 26 27, jK B1 27 1 28] (jI 28 (jS [iM 29 2, iM 10 29] (jS [iM 30 3, iM 11 30]
 (.seq (.block 0 (.loop (.seq (jS [iM 31 10, iM 32 11, iD B3 31 32 33] (.ite (.t 33) .skip (.exit 0))) (.block 1 (jS [iM 34 10, iM 35 11, iD B2 34 35 36, iU (.cvI .u64) 36 37,
 iJ (.bin .shr) [.t 37, .c (.pv (.i .u64 1))] 38, iU (.cvI .i64) 38 39, iM 12 39] (.seq (.any [49] [(iM 40 4, 0, [49]), (iM 41 0, 0, [49]), (iM 42 12, 0, [49]), (iD (.iaS 15) 41 42 43, 1, [49]),
 (iU (.ld 15 true) 43 44, 1, [49]), (iM 45 0, 0, [49]), (iM 46 1, 0, [49]), (iD (.iaS 15) 45 46 47, 1, [49]), (iU (.ld 15 true) 47 48, 1, [49]), (iJ .callv [.t 40, .t 44, .t 48] 49, 1, [49]),
 (jK B3 49 0 50, 0, [])]) (.ite (.t 50) (.ops [iM 51 12, jK B2 51 1 52, iM 10 52]) (.ops [iM 53 12, iM 11 53])))))))) (.seq (jS [iM 54 1, iM 13 54]
 (.block 2 (.loop (.seq (jS [iM 55 13, iM 56 10, jK B5 56 1 57, iD B3 55 57 58] (.ite (.t 58) .skip (.exit 2))) (.seq (.block 3 (.any [] [(iM 61 0, 0, []), (iM 62 13, 0, []),
 (iM 63 0, 0, []), (iM 64 13, 0, []), (jK B2 64 1 65, 0, []), (iM 66 0, 0, []), (iM 67 13, 0, []), (jK B2 67 1 68, 0, []), (iD (.iaS 15) 66 68 69, 1, []),
 (iU (.ld 15 true) 69 70, 1, []), (iM 71 0, 0, []), (iM 72 13, 0, []), (iD (.iaS 15) 71 72 73, 1, []), (iU (.ld 15 true) 73 74, 1, []), (iD (.iaS 15) 61 62 75, 1, []),
 (jW 15 75 70, 2, []), (iD (.iaS 15) 63 65 76, 1, []), (jW 15 76 74, 2, [])])) (.ops [iM 59 13, jK B2 59 1 60, iM 13 60])))))) .ret))))))
 (.seq (jS [iM 77 3, iM 78 2, iD B5 77 78 79, jK B1 79 1 80] (jI 80 (jS [iM 81 1, iM 14 81] (jS [iM 82 2, iM 15 82]
 (.seq (.block 4 (.loop (.seq (jS [iM 83 14, iM 84 15, iD B3 83 84 85] (.ite (.t 85) .skip (.exit 4))) (.block 5 (jS [iM 86 14, iM 87 15, iD B2 86 87 88, iU (.cvI .u64) 88 89,
 iJ (.bin .shr) [.t 89, .c (.pv (.i .u64 1))] 90, iU (.cvI .i64) 90 91, iM 16 91] (.seq (.any [101] [(iM 92 4, 0, [101]), (iM 93 0, 0, [101]), (iM 94 2, 0, [101]), (iD (.iaS 15) 93 94 95, 1, [101]),
 (iU (.ld 15 true) 95 96, 1, [101]), (iM 97 0, 0, [101]), (iM 98 16, 0, [101]), (iD (.iaS 15) 97 98 99, 1, [101]), (iU (.ld 15 true) 99 100, 1, [101]),
 (iJ .callv [.t 92, .t 96, .t 100] 101, 1, [101]), (jK B3 101 0 102, 0, []), (iU U1 102 103, 0, [101])]) (.ite (.t 103) (.ops [iM 104 16, jK B2 104 1 105, iM 14 105])
 (.ops [iM 106 16, iM 15 106])))))))) (.seq (jS [iM 107 2, iM 17 107] (.block 6 (.loop (.seq (jS [iM 108 17, iM 109 14, iD B4 108 109 110] (.ite (.t 110) .skip (.exit 6)))
 (.seq (.block 7 (.any [] [(iM 113 0, 0, []), (iM 114 17, 0, []), (iM 115 0, 0, []), (iM 116 17, 0, []), (jK B5 116 1 117, 0, []), (iM 118 0, 0, []), (iM 119 17, 0, []),
 (jK B5 119 1 120, 0, []), (iD (.iaS 15) 118 120 121, 1, []), (iU (.ld 15 true) 121 122, 1, []), (iM 123 0, 0, []), (iM 124 17, 0, []), (iD (.iaS 15) 123 124 125, 1, []),
 (iU (.ld 15 true) 125 126, 1, []), (iD (.iaS 15) 113 114 127, 1, []), (jW 15 127 122, 2, []), (iD (.iaS 15) 115 117 128, 1, []), (jW 15 128 126, 2, [])]))
 (.ops [iM 111 17, jK B5 111 1 112, iM 17 112])))))) .ret)))))) (jS [iM 129 1, iM 130 3, iD B2 129 130 131, iU (.cvI .u64) 131 132,
 iJ (.bin .shr) [.t 132, .c (.pv (.i .u64 1))] 133, iU (.cvI .i64) 133 134, iM 18 134] (jS [iM 135 18, iM 136 2, iD B2 135 136 137, iM 19 137] (jS [jC 0 20,
 jC 0 21] (.seq (jS [iM 138 2, iM 139 18, iD B4 138 139 140] (.ite (.t 140) (jS [iM 141 19, iM 142 3, iD B5 141 142 143, iM 20 143] (.ops [iM 144 18, iM 21 144]))
 (jS [iM 145 1, iM 20 145] (.ops [iM 146 2, iM 21 146])))) (jS [iM 147 19, jK B5 147 1 148, iM 22 148] (.seq (.block 8 (.loop (.seq (jS [iM 149 20, iM 150 21,
 iD B3 149 150 151] (.ite (.t 151) .skip (.exit 8))) (.block 9 (jS [iM 152 20, iM 153 21, iD B2 152 153 154, iU (.cvI .u64) 154 155, iJ (.bin .shr) [.t 155, .c (.pv (.i .u64 1))] 156,
 iU (.cvI .i64) 156 157, iM 23 157] (.seq (.any [169] [(iM 158 4, 0, [169]), (iM 159 0, 0, [169]), (iM 160 22, 0, [169]), (iM 161 23, 0, [169]), (iD B5 160 161 162, 0, [169]),
 (iD (.iaS 15) 159 162 163, 1, [169]), (iU (.ld 15 true) 163 164, 1, [169]), (iM 165 0, 0, [169]), (iM 166 23, 0, [169]), (iD (.iaS 15) 165 166 167, 1, [169]), (iU (.ld 15 true) 167 168, 1, [169]),
 (iJ .callv [.t 158, .t 164, .t 168] 169, 1, [169]), (jK B3 169 0 170, 0, []), (iU U1 170 171, 0, [169])]) (.ite (.t 171) (.ops [iM 172 23, jK B2 172 1 173, iM 20 173])
 (.ops [iM 174 23, iM 21 174])))))))) (jS [iM 175 19, iM 176 20, iD B5 175 176 177, iM 24 177] (.seq (jS [iM 178 20, iM 179 2, iD B3 178 179 180, iM 181 180, jA .mv 2 182 181,
 jA .mv 24 183 181, iG B3 [.t 182, .t 183] 184 181 true, jQ 181 184 185] (jI 185 (.ops [iM 186 0, iM 187 20, iM 188 2, iM 189 24, iM 190 4,
 iJ (.call 76) [.t 186, .t 187, .t 188, .t 189, .t 190] 191]))) (.seq (jS [iM 192 1, iM 193 20, iD B3 192 193 194, iM 195 194, jA .mv 20 196 195, jA .mv 18 197 195,
 iG B3 [.t 196, .t 197] 198 195 true, jQ 195 198 199] (jI 199 (.ops [iM 200 0, iM 201 1, iM 202 20, iM 203 18, iM 204 4,
 iJ (.call 68) [.t 200, .t 201, .t 202, .t 203, .t 204] 205]))) (jS [iM 206 18, iM 207 24, iD B3 206 207 208, iM 209 208, jA .mv 24 210 209, jA .mv 3 211 209,
 iG B3 [.t 210, .t 211] 212 209 true, jQ 209 212 213] (jI 213 (.ops [iM 214 0, iM 215 18, iM 216 24, iM 217 3, iM 218 4,
 iJ (.call 68) [.t 214, .t 215, .t 216, .t 217, .t 218] 219]))))))))))))))
theorem fn68 : Bc Tryd.prog 68 = some (220, [], ir68) := by kernel_rfl
def ir69 : C := (jS [iU .box 0 2, iU .box 1 3, iJ .mv [.c zF] 4] (.seq (jS [jF 1 2 5, iU L1 5 6, jF 1 3 7, iU L1 7 8, iD B6 6 8 9]
 (jI 9 (jS [jF 1 2 10, iU L1 10 11, jF 1 3 12, iU L1 12 13, iD B3 11 13 14, iM 4 14] .ret))) (jS [jF 0 2 15, iU L1 15 16, jF 0 3 17, iU L1 17 18,
 iD B3 16 18 19, iM 4 19] .ret)))
theorem fn69 : Bc Tryd.prog 69 = some (20, [.t 4], ir69) := by kernel_rfl
def ir71 : C := (jS [iJ .mv [.c zS] 4] (.seq (jS [iM 10 1, jK B1 10 10 11] (jI 11 (.seq (jS [iM 12 0, iJ B7 [cI 0, .t 12] 13, iM 14 13, jA .mv 0 15 14,
 iG B3 [.t 15, cI 100] 16 14 true, jQ 14 16 17] (jI 17 (jS [iM 18 0, iU (.call 72) 18 19, iM 4 19] .ret)))
 (jS [iJ (.new (.vec 24 (List.replicate 24 (.i .u8 0)))) [] 5] (jS [iM 20 0, iU (.cvI .u64) 20 21, iM 6 21] (.seq (jS [iM 22 0, jK B3 22 0 23]
 (jI 23 (.ops [iM 24 6, iU (.un .neg) 24 25, iM 6 25]))) (jS [iM 26 6, iU (.call 73) 26 27, iM 7 27] (.seq .bad (.seq (jS [iM 33 0, jK B3 33 0 34]
 (jI 34 (jS [iU (.iaC 0) 5 35, iO S1 [.t 35, .c (.pv (.i .u8 45))]] (.seq .bad .ret)))) (.seq .bad .ret)))))))))) (jS [iM 45 0, iU (.cvI .u64) 45 46, iM 47 1,
 iM 48 0, jK B3 48 0 49, iJ (.call 75) [.c zN, .t 46, .t 47, .t 49, .c zF] 50, iM 44 50, iU (.ext 0) 44 51, iU (.ext 1) 44 52, iM 8 51, iM 9 52] (jS [iM 53 9, iM 4 53] .ret))))
theorem fn71 : Bc Tryd.prog 71 = some (54, [.t 4], ir71) := by kernel_rfl
def ir72 : C := (jS [iJ .mv [.c zS] 2] (.seq (jS [iM 3 0, jK B3 3 10 4] (jI 4 (jS [iM 5 0, iM 6 0, jK B2 6 1 7,
 iJ (.sls true true) [.c (.pv (.s [48, 49, 50, 51, 52, 53, 54, 55, 56, 57, 97, 98, 99, 100, 101, 102, 103, 104, 105, 106, 107, 108, 109, 110, 111, 112, 113, 114, 115, 116, 117, 118, 119, 120, 121, 122])), .t 5, .t 7] 8,
 iM 2 8] .ret))) (jS [iM 9 0, jK (.bin .mul) 9 2 10, iM 11 0, jK (.bin .mul) 11 2 12, jK B2 12 2 13,
 iJ (.sls true true) [.c (.pv (.s [48, 48, 48, 49, 48, 50, 48, 51, 48, 52, 48, 53, 48, 54, 48, 55, 48, 56, 48, 57, 49, 48, 49, 49, 49, 50, 49, 51, 49, 52, 49, 53, 49, 54, 49, 55, 49, 56, 49, 57, 50, 48, 50, 49, 50, 50, 50, 51, 50, 52, 50, 53, 50, 54, 50, 55, 50, 56, 50, 57, 51, 48, 51, 49, 51, 50, 51, 51, 51, 52, 51, 53, 51, 54, 51, 55, 51, 56, 51, 57, 52, 48, 52, 49, 52, 50, 52, 51, 52, 52, 52, 53, 52, 54, 52, 55, 52, 56, 52, 57, 53, 48, 53, 49, 53, 50, 53, 51, 53, 52, 53, 53, 53, 54, 53, 55, 53, 56, 53, 57, 54, 48, 54, 49, 54, 50, 54, 51, 54, 52, 54, 53, 54, 54, 54, 55, 54, 56, 54, 57, 55, 48, 55, 49, 55, 50, 55, 51, 55, 52, 55, 53, 55, 54, 55, 55, 55, 56, 55, 57, 56, 48, 56, 49, 56, 50, 56, 51, 56, 52, 56, 53, 56, 54, 56, 55, 56, 56, 56, 57, 57, 48, 57, 49, 57, 50, 57, 51, 57, 52, 57, 53, 57, 54, 57, 55, 57, 56, 57, 57])), .t 10, .t 13] 14,
 iM 2 14] .ret)))
theorem fn72 : Bc Tryd.prog 72 = some (15, [.t 2], ir72) := by kernel_rfl
def ir76 : C := (jS [iM 12 2, iM 13 1, iD B5 12 13 14, iM 10 14] (jS [iM 15 3, iM 16 2, iD B5 15 16 17, iM 11 17] (.seq (.block 0 (.loop (.seq (jS [iM 18 10, iM 19 11,
 iD B6 18 19 20] (.ite (.t 20) .skip (.exit 0))) (.block 1 (jS [iM 21 10, iM 22 11, iD B4 21 22 23] (.ite (.t 23) (jS [iM 24 0, iM 25 2, iM 26 10, iD B5 25 26 27, iM 28 2, iM 29 11,
 iM 30 4, iJ (.call 83) [.t 24, .t 27, .t 28, .t 29, .t 30] 31] (.ops [iM 32 10, iM 33 11, iD B5 32 33 34, iM 10 34])) (jS [iM 35 0, iM 36 2, iM 37 10, iD B5 36 37 38, iM 39 2, iM 40 11,
 iD B2 39 40 41, iM 42 10, iD B5 41 42 43, iM 44 10, iM 45 4, iJ (.call 83) [.t 35, .t 38, .t 43, .t 44, .t 45] 46] (.ops [iM 47 11, iM 48 10, iD B5 47 48 49, iM 11 49])))))))) (.ops [iM 50 0,
 iM 51 2, iM 52 10, iD B5 51 52 53, iM 54 2, iM 55 10, iM 56 4, iJ (.call 83) [.t 50, .t 53, .t 54, .t 55, .t 56] 57]))))
theorem fn76 : Bc Tryd.prog 76 = some (58, [], ir76) := by kernel_rfl
def ir83 : C := (jS [jC 0 10] (.block 0 (.loop (.seq (jS [iM 11 10, iM 12 3, iD B3 11 12 13] (.ite (.t 13) .skip (.exit 0))) (.seq (.block 1 (.any [] [(iM 16 0, 0, []),
 (iM 17 1, 0, []), (iM 18 10, 0, []), (iD B2 17 18 19, 0, []), (iM 20 0, 0, []), (iM 21 2, 0, []), (iM 22 10, 0, []), (iD B2 21 22 23, 0, []), (iM 24 0, 0, []), (iM 25 2, 0, []), (iM 26 10, 0, []),
 (iD B2 25 26 27, 0, []), (iD (.iaS 15) 24 27 28, 1, []), (iU (.ld 15 true) 28 29, 1, []), (iM 30 0, 0, []), (iM 31 1, 0, []), (iM 32 10, 0, []), (iD B2 31 32 33, 0, []),
 (iD (.iaS 15) 30 33 34, 1, []), (iU (.ld 15 true) 34 35, 1, []), (iD (.iaS 15) 16 19 36, 1, []), (jW 15 36 29, 2, []), (iD (.iaS 15) 20 23 37, 1, []),
 (jW 15 37 35, 2, [])])) (.ops [iM 14 10, jK B2 14 1 15, iM 10 15]))))))
theorem fn83 : Bc Tryd.prog 83 = some (38, [], ir83) := by kernel_rfl
end Go.Proofs.YthleeikkpjiicaaDoor.Fw
