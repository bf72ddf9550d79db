/- The functions of the program in the small language, each checked against the program. -/
import Derived.Test.YtannaphhhkncoaaGreatFwD
import Derived.Test.YtannaphhhkncoaaGreatProg
import Derived.ProofKit
set_option linter.unusedVariables false
set_option linter.unusedSimpArgs false
set_option linter.unusedSectionVars false
set_option maxRecDepth 100000
namespace Go.Proofs.YtannaphhhkncoaaGreat.Fw
open Go.Proofs
theorem Aq : Tryz.prog.follows .mixedOrders = true := by kernel_rfl
def ir3 : C := (jS [iJ .mv [.c zF] 4] (.seq (jS [iJ (.call 4) [] 10, iU U1 10 11, iM 12 11, jB .mv 0 13 12, jB (.call 5) 13 14 12, jB U1 14 15 12,
 jP 12 15 16, iM 17 16, jB .mv 1 18 17, jB (.call 5) 18 19 17, jB U1 19 20 17, jP 17 20 21]
 (jI 21 (jS [iJ (.call 4) [] 22, iM 4 22] .ret))) (jS [iM 23 0, iU (.call 7) 23 24, iU (.call 6) 24 25, iM 26 1, iU (.call 7) 26 27, iU (.call 6) 27 28,
 iJ (.new (.agg [zV, zN, zN, zW, zX])) [] 5, iJ (.new (.agg [zV, zN, zN, zW, zX])) [] 6, jW 26 5 25, jW 26 6 28] (jS [iU (.ld 26 true) 5 29,
 iU (.call 8) 29 30, iM 7 30] (jS [iM 32 7, iU (.call 9) 32 33, iM 31 33, iU (.ext 0) 31 34, iU (.ext 1) 31 35, iJ (.new (.agg [zV, zN, zN, zW, zX])) [] 8, jW 26 8 34,
 iM 9 35] (.seq (.any [41, 47, 52] [(iM 36 9, 0, [41, 47, 52]), (jK B1 36 0 37, 0, [41, 47, 52]), (iM 38 37, 0, [41, 47, 52]), (jA (.ld 26 true) 8 39 38, 1, [41, 47, 52]),
 (jA (.ld 26 true) 5 40 38, 1, [41, 47, 52]), (iG (.call 10) [.t 39, .t 40] 41 38 true, 3, [41, 47, 52]), (jQ 38 41 42, 0, [47, 52]), (iM 43 42, 0, [47, 52]),
 (jA .mv 7 44 43, 0, [41, 47, 52]), (jA .b2s 44 45 43, 1, [41, 47, 52]), (jA (.ld 26 true) 6 46 43, 1, [41, 47, 52]), (jA (.call 8) 46 47 43, 1, [41, 47, 52]),
 (jA .b2s 47 48 43, 1, [41, 52]), (iG B1 [.t 45, .t 48] 49 43 true, 0, [41, 47, 52]), (jA (.ld 26 true) 5 50 43, 1, [41, 47, 52]), (jA (.ld 26 true) 6 51 43, 1, [41, 47, 52]),
 (iG (.call 10) [.t 50, .t 51] 52 43 true, 1, [41, 52]), (iG (.binB .eql) [.t 49, .t 52] 53 43 true, 0, [41, 47]), (jQ 43 53 54, 0, [41, 47, 52]), (iM 4 54, 0, [])]) .ret))))))
theorem fn3 : Bf Tryz.prog 3 = some (55, [.t 4], ir3) := by kernel_rfl
def ir5 : C := (jS [iJ .mv [.c zF] 2] (.seq (jS [iM 5 0, iU .len 5 6, jK B4 6 30 7] (jI 7 (jS [iJ .mv [.c zF] 2] .ret))) (.seq (jS [iM 8 0,
 iU .len 8 9, jC 0 10] (.block 0 (.loop (jS [iD B3 10 9 11] (.seq (.ite (.t 11) .skip (.exit 0)) (.seq (.block 1 (jS [iD (.iaS 21) 8 10 12, iU (.ld 21 true) 12 13,
 jE 4, jW 21 4 13] (jS [jF 15 4 14, iU L1 14 15, iU .lenS 15 16, jK B4 16 30 17,
 iM 18 17, jN 19 4 19 18, jB L1 19 20 18, jB .lenS 20 21 18, iG B4 [.t 21, cI 250] 22 18 false, jP 18 22 23, iM 24 23, jN 16 4 25 24,
 jB L1 25 26 24, jB .len 26 27 24, iG B4 [.t 27, cI 10] 28 24 false, jP 24 28 29, iM 30 29, jN 17 4 31 30, jB L1 31 32 30, jB .len 32 33 30,
 iG B4 [.t 33, cI 10] 34 30 false, jP 30 34 35] (jI 35 (jS [iJ .mv [.c zF] 2] .ret))))) (.ops [jK B2 10 1 36, iM 10 36])))))))
 (jS [iJ .mv [.c zT] 2] .ret))))
theorem fn5 : Bf Tryz.prog 5 = some (37, [.t 2], ir5) := by kernel_rfl
def ir6 : C := (jS [iJ (.new (.agg [zV, zN, zN, zW, zX])) [] 2] (jS [iM 10 0, iU (.call 14) 10 11, iM 12 0, iU (.call 15) 12 13,
 iJ (.bld [8, 1, 1, 8, 8]) [.t 11, .c zN, .t 13, .c zW, .c zX] 14, iJ (.new (.agg [zV, zN, zN, zW, zX])) [] 3, jW 26 3 14]
 (jS [iJ (.bldV 8 1) [.c zU, .c zU, .c zU, .c zU, .c zU, .c zU, .c zU, .c zU] 15, iJ (.new zV) [] 4, jW 8 4 15] (.seq (jS [jC 0 5]
 (.block 0 (.loop (.seq (jS [iM 16 5, iM 17 0, iU .len 17 18, iD B3 16 18 19] (.ite (.t 19) .skip (.exit 0))) (.seq (.block 1 (jS [iM 22 0, iM 23 5, iD (.iaS 21) 22 23 24,
 iU (.ld 21 true) 24 25, jE 6, jW 21 6 25] (.seq (jS [jF 10 6 26, iU L1 26 27,
 jK B1 27 1 28, iM 29 28, jN 10 6 30 29, jB L1 30 31 29, iG B1 [.t 31, cI 2] 32 29 false, jP 29 32 33] (jI 33 (jS [iM 34 0,
 iU (.ld 21 true) 6 35, iD (.call 16) 34 35 36, iJ (.new (.agg [zI, zU, zF, zI, zU, zS, zV, zN])) [] 7, jW 15 7 36] (jS [jF 8 3 37, iU L1 37 38, iU .len 38 39, iM 8 39]
 (.seq (.block 2 (.loop (.seq (.seq (.any [52] [(iM 40 8, 0, [52]), (jK B4 40 0 41, 0, [52]), (iM 42 41, 0, [52]), (jL 0 7 43 42, 0, [52]), (jA L2 43 44 42, 1, [52]),
 (jL 8 3 45 42, 0, [52]), (jA L1 45 46 42, 1, [52]), (jA .mv 8 47 42, 0, [52]), (iG B5 [.t 47, cI 1] 48 42 true, 0, [52]), (iG (.iaS 15) [.t 46, .t 48] 49 42 true, 1, [52]),
 (jL 0 49 50 42, 0, [52]), (jA L2 50 51 42, 1, [52]), (iG (.call 17) [.t 44, .t 51] 52 42 true, 3, [52]), (jQ 42 52 53, 0, [])]) (.ite (.t 53) .skip (.exit 2)))
 (.block 3 (.ops [iM 54 8, jK B5 54 1 55, iM 8 55]))))) (.seq (.anyF [57, 62] [(iU (.ld 15 true) 7 56, 1, [57, 62]), (iU (.bsl 15) 56 57, 1, [57, 62]), (jF 8 3 58, 0, [57, 62]),
 (iU L1 58 59, 1, [57, 62]), (iM 60 8, 0, [57, 62]), (iD (.slc 15 true false false) 59 60 61, 1, [57, 62]), (iD (.app 15 112) 57 61 62, 2, [62]), (iM 9 62, 0, [])]) (.ops [iJ (.bsl 15) [] 63,
 jF 8 3 64, iU L1 64 65, iM 66 8, iD (.slc 15 false true false) 65 66 67, iD (.app 15 112) 63 67 68, iM 69 9, iD (.app 15 112) 68 69 70, jF 8 3 71, jW 1 71 70])))))))
 (.seq (.seq (.any [83] [(jF 10 6 72, 0, [83]), (iU L1 72 73, 1, [83]), (jK B1 73 8 74, 0, [83]), (iM 75 74, 0, [83]), (jL 0 6 76 75, 0, [83]),
 (jL 1 76 77 75, 0, [83]), (jA L1 77 78 75, 1, [83]), (jA L8 4 79 75, 1, [83]), (jL 0 6 80 75, 0, [83]), (jL 0 80 81 75, 0, [83]),
 (jA L1 81 82 75, 1, [83]), (iG (.call 18) [.t 79, .t 82] 83 75 true, 1, [83]), (iG B4 [.t 78, .t 83] 84 75 true, 0, []), (jQ 75 84 85, 0, [83])])
 (jI 85 (jS [iU L8 4 86, jF 0 6 87, iU L2 87 88, iD (.call 19) 86 88 89, jW 8 4 89] (.ops [jF 0 6 90, jF 0 90 91, iU L1 91 92, jK B5 92 1 93,
 jF 20 6 94, iU L1 94 95, jF 10 3 96, iD (.iaA 8 1) 96 93 97, jW 1 97 95])))) (jS [jF 10 6 98, iU L1 98 99, jK B1 99 9 100]
 (jI 100 (.ops [jF 0 6 101, jF 0 101 102, iU L1 102 103, jK B5 103 1 104, jF 18 3 105, iD (.iaA 8 1) 105 104 106, iO S1 [.t 106, .c zT]]))))))) (.ops [iM 20 5,
 jK B2 20 1 21, iM 5 21])))))) (jS [iU (.ld 26 true) 3 107, jW 26 2 107] .ret)))))
theorem fn6 : Bf Tryz.prog 6 = some (108, [.c 2 26 true], ir6) := by kernel_rfl
def ir7 : C := (jS [iJ .mv [.c zN] 2] (jS [iJ .mv [.c zN] 3] (.seq (jS [jC 0 4] (.block 0 (.loop (.seq (jS [iM 5 4, iM 6 0, iU .len 6 7, iD B3 5 7 8]
 (.ite (.t 8) .skip (.exit 0))) (.seq (.block 1 (.seq (.any [12, 17] [(iM 11 3, 0, [12, 17]), (iU (.call 6) 11 12, 1, [12, 17]), (iM 13 0, 0, [12, 17]), (iM 14 4, 0, [12, 17]),
 (iD (.iaS 21) 13 14 15, 1, [12, 17]), (iU (.ld 21 true) 15 16, 1, [12, 17]), (iD (.call 20) 12 16 17, 3, [17]), (jK B1 17 0 18, 0, [12])]) (jI 18 (.ops [iM 19 3, iM 20 0, iM 21 4,
 iD (.iaS 21) 20 21 22, iU (.ld 21 true) 22 23, iU (.bsl 21) 23 24, iD (.app 21 184) 19 24 25, iM 3 25])))) (.ops [iM 9 4, jK B2 9 1 10, iM 4 10])))))) (jS [iM 26 3, iM 2 26]
 .ret))))
theorem fn7 : Bf Tryz.prog 7 = some (27, [.t 2], ir7) := by kernel_rfl
def ir8 : C := (jS [iU .box 0 1, iJ .mv [.c zN] 2] (jS [iJ (.bsl 1) [] 14, iM 3 14] (.seq (jS [jF 10 1 15, iU L8 15 16, jC 0 17]
 (.block 0 (.loop (jS [jK B3 17 8 18] (.seq (.ite (.t 18) .skip (.exit 0)) (.seq (.block 1 (jS [iM 19 17, iD (.ixA 8 1 false) 16 17 20, iM 4 19, iM 5 20] (.ops [iM 21 3,
 iM 22 5, iU (.cvI .u8) 22 23, iJ (.bin .mul) [.t 23, .c (.pv (.i .u8 2))] 24, iM 25 4, jF 18 1 26, iD (.iaA 8 1) 26 25 27, iU L1 27 28, iU (.call 21) 28 29, iU .len 29 30, iU (.cvI .u8) 30 31,
 iD B2 24 31 32, iU (.bsl 1) 32 33, iD (.app 1 1) 21 33 34, iM 3 34]))) (.ops [jK B2 17 1 35, iM 17 35]))))))) (jS [jF 0 1 36, iU L8 36 37, iU (.call 22) 37 38, iM 39 3,
 iD (.bsl 1) 38 39 40, iM 6 40] (.seq (jS [jF 8 1 41, iU L1 41 42, iU .len 42 43, jC 0 44] (.block 2 (.loop (jS [iD B3 44 43 45] (.seq (.ite (.t 45) .skip (.exit 2))
 (.seq (.block 3 (jS [iD (.iaS 15) 42 44 46, iU (.ld 15 true) 46 47, iJ (.new (.agg [zI, zU, zF, zI, zU, zS, zV, zN])) [] 8, jW 15 8 47]
 (.seq (.any [50, 53, 56, 62, 63] [(jF 0 8 48, 0, [50, 53, 56, 62, 63]), (iU L2 48 49, 1, [50, 53, 56, 62, 63]), (iU (.call 23) 49 50, 1, [50, 53, 56, 62, 63]),
 (jF 2 8 51, 0, [50, 53, 56, 62, 63]), (iU L1 51 52, 1, [50, 53, 56, 62, 63]), (iU (.call 21) 52 53, 1, [53, 56, 62, 63]), (jF 3 8 54, 0, [50, 53, 56, 62, 63]),
 (iU L2 54 55, 1, [50, 53, 56, 62, 63]), (iU (.call 23) 55 56, 1, [50, 56, 62, 63]), (jF 5 8 57, 0, [50, 53, 56, 62, 63]), (iU L1 57 58, 1, [50, 53, 56, 62, 63]),
 (iU .s2bD 58 59, 0, [50, 53, 56, 62, 63]), (jF 6 8 60, 0, [50, 53, 56, 62, 63]), (iU L8 60 61, 1, [50, 53, 56, 62, 63]), (iU (.call 22) 61 62, 1, [50, 53, 62, 63]),
 (iJ (.bsl 1) [.t 50, .t 53, .t 56, .t 59, .t 62] 63, 3, [63]), (iM 9 63, 0, [])]) (.seq (jS [jF 14 8 64, iU L1 64 65, iU .len 65 66, jC 0 67]
 (.block 4 (.loop (jS [iD B3 67 66 68] (.seq (.ite (.t 68) .skip (.exit 4)) (.seq (.block 5 (jS [iD (.iaS 11) 65 67 69, iU (.ld 11 true) 69 70,
 iJ (.new (.agg [zI, zU, zS, zV])) [] 11, jW 11 11 70] (.any [74, 80, 81, 82] [(iM 71 9, 0, [74, 80, 81, 82]), (jF 0 11 72, 0, [74, 80, 81, 82]),
 (iU L2 72 73, 1, [74, 80, 81, 82]), (iU (.call 23) 73 74, 1, [74, 80, 81, 82]), (jF 2 11 75, 0, [74, 80, 81, 82]), (iU L1 75 76, 1, [74, 80, 81, 82]), (iU .s2bD 76 77, 0, [74, 80, 81, 82]),
 (jF 3 11 78, 0, [74, 80, 81, 82]), (iU L8 78 79, 1, [74, 80, 81, 82]), (iU (.call 22) 79 80, 1, [80, 81, 82]), (iJ (.bsl 1) [.t 74, .t 77, .t 80] 81, 1, [81, 82]),
 (iD (.app 1 24) 71 81 82, 2, [74, 82]), (iM 9 82, 0, [])]))) (.ops [jK B2 67 1 83, iM 67 83]))))))) (.ops [iM 84 6, iM 85 9, iU (.call 24) 85 86, iU (.bsl 1) 86 87, iD (.app 1 24) 84 87 88,
 iM 6 88]))))) (.ops [jK B2 44 1 89, iM 44 89]))))))) (jS [iM 90 6, iJ (.bsl 1) [.c zN] 91, iD (.app 1 24) 90 91 92, iM 6 92] (.seq (jS [jF 9 1 93, iU L1 93 94,
 iU .len 94 95, jC 0 96] (.block 6 (.loop (jS [iD B3 96 95 97] (.seq (.ite (.t 97) .skip (.exit 6)) (.seq (.block 7 (jS [iD (.iaS 15) 94 96 98, iU (.ld 15 true) 98 99,
 iJ (.new (.agg [zI, zU, zI, zU, zS, zI, zU, zV])) [] 13, jW 15 13 99] (.any [103, 106, 112, 115, 116, 117, 118, 119] [(iM 100 6, 0, [103, 106, 112, 115, 116, 117, 118, 119]),
 (jF 0 13 101, 0, [103, 106, 112, 115, 116, 117, 118, 119]), (iU L2 101 102, 1, [103, 106, 112, 115, 116, 117, 118, 119]), (iU (.call 23) 102 103, 1, [103, 106, 112, 115, 116, 117, 118, 119]),
 (jF 2 13 104, 0, [103, 106, 112, 115, 116, 117, 118, 119]), (iU L2 104 105, 1, [103, 106, 112, 115, 116, 117, 118, 119]), (iU (.call 23) 105 106, 1, [106, 112, 115, 116, 117, 118, 119]),
 (jF 4 13 107, 0, [103, 106, 112, 115, 116, 117, 118, 119]), (iU L1 107 108, 1, [103, 106, 112, 115, 116, 117, 118, 119]), (iU .s2bD 108 109, 0, [103, 106, 112, 115, 116, 117, 118, 119]),
 (jF 5 13 110, 0, [103, 106, 112, 115, 116, 117, 118, 119]), (iU L2 110 111, 1, [103, 106, 112, 115, 116, 117, 118, 119]), (iU (.call 23) 111 112, 1, [103, 112, 115, 116, 117, 118, 119]),
 (jF 7 13 113, 0, [103, 106, 112, 115, 116, 117, 118, 119]), (iU L8 113 114, 1, [103, 106, 112, 115, 116, 117, 118, 119]), (iU (.call 22) 114 115, 1, [103, 106, 115, 116, 117, 118, 119]),
 (iJ (.bsl 1) [.t 103, .t 106, .t 109, .t 112, .t 115] 116, 1, [116, 117, 118, 119]), (iU (.call 24) 116 117, 2, [103, 106, 112, 117, 118, 119]),
 (iU (.bsl 1) 117 118, 1, [103, 106, 112, 115, 116, 118, 119]), (iD (.app 1 24) 100 118 119, 2, [103, 106, 112, 115, 116, 119]), (iM 6 119, 0, [])]))) (.ops [jK B2 96 1 120, iM 96 120])))))))
 (jS [iM 121 6, iU (.call 24) 121 122, iM 2 122] .ret))))))))
theorem fn8 : Bf Tryz.prog 8 = some (123, [.t 2], ir8) := by kernel_rfl
def ir9 : C := (jS [iJ (.new (.agg [zV, zN, zN, zW, zX])) [] 2, iJ (.new zI) [] 3] (.seq .bad (jS [iM 13 0, iU (.call 26) 13 14, iM 4 14] (jS [iM 15 4, iU (.call 27) 15 16,
 iJ (.bld [8, 1, 1, 8, 8]) [.t 16, .c zN, .c zN, .c zW, .c zX] 17, iJ (.new (.agg [zV, zN, zN, zW, zX])) [] 5, jW 26 5 17] (jS [iM 18 4, iU (.call 28) 18 19, iM 6 19]
 (.seq (jS [iM 20 6, iU .len 20 21, jK B6 21 8 22] (jI 22 .bad)) (.seq (jS [iM 24 6, iU .len 24 25, jC 0 26]
 (.block 0 (.loop (jS [iD B3 26 25 27] (.seq (.ite (.t 27) .skip (.exit 0)) (.seq (.block 1 (jS [iM 28 26, iD (.iaS 1) 24 26 29, iU L1 29 30, iM 7 28, iM 8 30] (.ops [iM 31 7,
 iM 32 7, iM 33 8, iJ (.bin .quo) [.t 33, .c (.pv (.i .u8 2))] 34, iU (.cvI .i64) 34 35, iM 36 8, iJ (.bin .rem) [.t 36, .c (.pv (.i .u8 2))] 37, iJ B1 [.t 37, .c (.pv (.i .u8 1))] 38,
 jF 10 5 39, iD (.iaA 8 1) 39 31 40, jW 1 40 35, jF 18 5 41, iD (.iaA 8 1) 41 32 42, jW 1 42 38]))) (.ops [jK B2 26 1 43, iM 26 43])))))))
 (.seq (jS [iM 44 4, iU (.call 28) 44 45, iM 9 45] (.block 2 (.loop (.seq (jS [iM 46 9, iU .len 46 47, jK B4 47 0 48] (.ite (.t 48) .skip (.exit 2)))
 (.seq (.block 3 (.any [54, 55, 56] [(jF 8 5 51, 0, [54, 55, 56]), (iU L1 51 52, 1, [54, 55, 56]), (iM 53 9, 0, [54, 55, 56]), (iU (.call 29) 53 54, 1, [54, 55, 56]),
 (iU (.bsl 15) 54 55, 1, [55, 56]), (iD (.app 15 112) 52 55 56, 2, [56]), (jF 8 5 57, 0, []), (jW 1 57 56, 2, [])])) (.ops [iM 49 4, iU (.call 28) 49 50, iM 9 50]))))))
 (.seq (.block 4 (.loop (.seq (jS [iM 58 4, iU .nilc 58 59, jF 0 59 60, iU L1 60 61, iU .len 61 62, jK B4 62 0 63] (.ite (.t 63) .skip (.exit 4)))
 (.block 5 (jS [iM 64 4, iU (.call 28) 64 65, iU (.call 26) 65 66, iM 10 66] (jS [iM 67 10, iU (.call 30) 67 68, iM 69 10, iU (.call 30) 69 70,
 iJ (.bld [2, 2, 1, 2, 8]) [.t 68, .t 70, .c zS, .c (.agg [zI, zU]), .c zV] 71, iJ (.new (.agg [zI, zU, zI, zU, zS, zI, zU, zV])) [] 11, jW 15 11 71] (jS [iM 72 10,
 iU (.call 28) 72 73, iU .b2s 73 74, jF 4 11 75, jW 1 75 74] (jS [iM 76 10, iU (.call 30) 76 77, iM 78 10, iU (.call 27) 78 79, jF 5 11 80, jW 2 80 77,
 jF 7 11 81, jW 8 81 79] (.ops [jF 9 5 82, iU L1 82 83, iU (.ld 15 true) 11 84, iU (.bsl 15) 84 85, iD (.app 15 96) 83 85 86, jF 9 5 87,
 jW 1 87 86]))))))))) (.seq (.seq (.any [89, 96] [(iU (.ld 26 true) 5 88, 1, [89, 96]), (iU (.call 8) 88 89, 1, [89, 96]), (iU .b2s 89 90, 1, [96]), (iM 91 0, 0, [89, 96]),
 (iU .b2s 91 92, 1, [89, 96]), (iD B6 90 92 93, 0, [89, 96]), (iM 94 93, 0, [96]), (jB (.ld 26 true) 5 95 94, 1, [89, 96]), (jB (.call 31) 95 96 94, 3, [89, 96]),
 (jB U1 96 97 94, 0, [89]), (jP 94 97 98, 0, [89, 96])]) (jI 98 .bad)) (jS [iU (.ld 26 true) 5 100, jW 26 2 100, iO S1 [.t 3, cI 0]]
 .ret)))))))))))
theorem fn9 : Bf Tryz.prog 9 = some (101, [.c 2 26 true, .c 3 1 false], ir9) := by kernel_rfl
def ir10 : C := (jS [iU .box 0 2, iU .box 1 3, iJ .mv [.c zF] 4] (.seq (jS [jF 0 2 8, iU L8 8 9, jF 0 3 10, iU L8 10 11,
 iD (.eqv true [.int .u32, .int .u32, .int .u32, .int .u32, .int .u32, .int .u32, .int .u32, .int .u32]) 9 11 12, iM 13 12, jN 10 2 14 13, jB L8 14 15 13, jN 10 3 16 13,
 jB L8 16 17 13, iG (.eqv true [.int .i64, .int .i64, .int .i64, .int .i64, .int .i64, .int .i64, .int .i64, .int .i64]) [.t 15, .t 17] 18 13 false, jP 13 18 19, iM 20 19,
 jN 18 2 21 20, jB L8 21 22 20, jN 18 3 23 20, jB L8 23 24 20, iG (.eqv true [.bool, .bool, .bool, .bool, .bool, .bool, .bool, .bool]) [.t 22, .t 24] 25 20 false,
 jP 20 25 26, iM 27 26, jN 9 2 28 27, jB L1 28 29 27, jN 9 3 30 27, jB L1 30 31 27, iG (.call 32) [.t 29, .t 31] 32 27 false,
 jB U1 32 33 27, jP 27 33 34, iM 35 34, jN 8 2 36 35, jB L1 36 37 35, jB .len 37 38 35, jN 8 3 39 35, jB L1 39 40 35,
 jB .len 40 41 35, iG B6 [.t 38, .t 41] 42 35 false, jP 35 42 43] (jI 43 (jS [iJ .mv [.c zF] 4] .ret))) (.seq (jS [jC 0 5]
 (.block 0 (.loop (.seq (jS [iM 44 5, jF 8 2 45, iU L1 45 46, iU .len 46 47, iD B3 44 47 48] (.ite (.t 48) .skip (.exit 0)))
 (.seq (.block 1 (.seq (.anyP [6, 7] [(jF 8 2 51, 0, [6, 7], [], 0), (iU L1 51 52, 1, [6, 7], [], 1), (iM 53 5, 0, [6, 7], [], 2), (iD (.iaS 15) 52 53 54, 1, [6, 7], [], 3),
 (iU (.ld 15 true) 54 55, 1, [6, 7], [], 4), (jF 8 3 56, 0, [6, 7], [], 5), (iU L1 56 57, 1, [6, 7], [], 6), (iM 58 5, 0, [6, 7], [], 7), (iD (.iaS 15) 57 58 59, 1, [6, 7], [], 8),
 (iU (.ld 15 true) 59 60, 1, [6, 7], [], 9), (iJ (.new (.agg [zI, zU, zF, zI, zU, zS, zV, zN])) [] 6, 1, [6, 7], [], 10), (iJ (.new (.agg [zI, zU, zF, zI, zU, zS, zV, zN])) [] 7, 1, [6, 7], [], 11),
 (jW 15 6 55, 2, [], [6, 8, 9], 12), (jW 15 7 60, 2, [], [], 13)]) (jS [jF 0 6 61, iU L2 61 62, jF 0 7 63, iU L2 63 64,
 iD (.eqv true [.int .i64, .int .u32]) 62 64 65, iM 66 65, jN 2 6 67 66, jB L1 67 68 66, jN 2 7 69 66, jB L1 69 70 66, iG (.binB .neq) [.t 68, .t 70] 71 66 false,
 jP 66 71 72, iM 73 72, jN 3 6 74 73, jB L2 74 75 73, jN 3 7 76 73, jB L2 76 77 73,
 iG (.eqv true [.int .i64, .int .u32]) [.t 75, .t 77] 78 73 false, jP 73 78 79, iM 80 79, jN 5 6 81 80, jB L1 81 82 80, jN 5 7 83 80,
 jB L1 83 84 80, iG B6 [.t 82, .t 84] 85 80 false, jP 80 85 86, iM 87 86, jN 6 6 88 87, jB L8 88 89 87, jN 6 7 90 87, jB L8 90 91 87,
 iG (.eqv true [.int .u32, .int .u32, .int .u32, .int .u32, .int .u32, .int .u32, .int .u32, .int .u32]) [.t 89, .t 91] 92 87 false, jP 87 92 93, iM 94 93,
 jN 14 6 95 94, jB L1 95 96 94, jN 14 7 97 94, jB L1 97 98 94, iG (.call 33) [.t 96, .t 98] 99 94 false, jB U1 99 100 94,
 jP 94 100 101] (jI 101 (jS [iJ .mv [.c zF] 4] .ret))))) (.ops [iM 49 5, jK B2 49 1 50, iM 5 50])))))) (jS [iJ .mv [.c zT] 4] .ret))))
theorem fn10 : Bf Tryz.prog 10 = some (102, [.t 4], ir10) := by kernel_rfl
def ir14 : C := (jS [iJ (.new zV) [] 2] (jS [iJ (.bldV 8 1) [.c zU, .c zU, .c zU, .c zU, .c zU, .c zU, .c zU, .c zU] 5, iJ (.new zV) [] 3, jW 8 3 5]
 (.seq (jS [jC 0 4] (.block 0 (.loop (.seq (jS [iM 6 4, iM 7 0, iU .len 7 8, iD B3 6 8 9] (.ite (.t 9) .skip (.exit 0))) (.seq (.block 1 (.any [18] [(iU L8 3 12, 1, [18]),
 (iM 13 0, 0, [18]), (iM 14 4, 0, [18]), (iD (.iaS 21) 13 14 15, 1, [18]), (jF 0 15 16, 0, [18]), (iU L2 16 17, 1, [18]), (iD (.call 19) 12 17 18, 3, [18]), (jW 8 3 18, 2, [])]))
 (.ops [iM 10 4, jK B2 10 1 11, iM 4 11])))))) (jS [iU L8 3 19, jW 8 2 19] .ret))))
theorem fn14 : Bf Tryz.prog 14 = some (20, [.c 2 8 true], ir14) := by kernel_rfl
def ir15 : C := (jS [iJ .mv [.c zN] 2] (jS [iJ .mv [.c zN] 3] (.seq (jS [jC 0 4] (.block 0 (.loop (.seq (jS [iM 9 4, iM 10 0, iU .len 10 11, iD B3 9 11 12]
 (.ite (.t 12) .skip (.exit 0))) (.seq (.block 1 (jS [iM 15 0, iM 16 4, iD (.iaS 21) 15 16 17, iU (.ld 21 true) 17 18,
 jE 5, jW 21 5 18] (.seq (jS [jF 10 5 19, iU L1 19 20, jK B6 20 1 21, iM 22 21,
 jL 10 5 23 22, jA L1 23 24 22, iG B6 [.t 24, cI 2] 25 22 true, jQ 22 25 26, iM 27 26, jL 10 5 28 27, jA L1 28 29 27,
 iG B6 [.t 29, cI 7] 30 27 true, jQ 27 30 31] (jI 31 (.exit 1))) (jS [jF 0 5 32, iU L2 32 33, jF 13 5 34, iU L2 34 35, jF 15 5 36,
 iU L1 36 37, jF 0 5 38, iU L2 38 39, iJ (.bld [2, 2, 1, 2, 8]) [.t 33, .t 35, .t 37, .t 39, .c zV] 40, iJ (.new (.agg [zI, zU, zI, zU, zS, zI, zU, zV])) [] 6, jW 15 6 40]
 (.seq (jS [jF 10 5 41, iU L1 41 42, jK B1 42 7 43] (jI 43 (.ops [jF 11 5 44, iU L2 44 45, jF 5 6 46, jW 2 46 45])))
 (.seq (jS [jC 0 7] (.block 2 (.loop (.seq (jS [iM 47 7, iM 48 0, iU .len 48 49, iD B3 47 49 50] (.ite (.t 50) .skip (.exit 2))) (.seq (.block 3 (jS [iM 53 0,
 iM 54 7, iD (.iaS 21) 53 54 55, jF 10 55 56, iU L1 56 57, jK B1 57 6 58, iM 59 58, jB .mv 0 60 59, jB .mv 7 61 59, iG (.iaS 21) [.t 60, .t 61] 62 59 false,
 jN 10 62 63 59, jB L1 63 64 59, iG B1 [.t 64, cI 7] 65 59 false, jP 59 65 66, iM 8 66] (.seq (.any [86] [(iM 67 8, 0, [86]), (iM 68 67, 0, [86]),
 (jA .mv 0 69 68, 0, [86]), (jA .mv 7 70 68, 0, [86]), (iG (.iaS 21) [.t 69, .t 70] 71 68 true, 1, [86]), (jL 11 71 72 68, 0, [86]), (jA L2 72 73 68, 1, [86]),
 (jL 5 6 74 68, 0, [86]), (jA L2 74 75 68, 1, [86]), (iG (.eqv false [.int .i64, .int .u32]) [.t 73, .t 75] 76 68 true, 0, [86]), (jQ 68 76 77, 0, [86]),
 (iM 78 77, 0, [86]), (jA .mv 0 79 78, 0, [86]), (jA .mv 7 80 78, 0, [86]), (iG (.iaS 21) [.t 79, .t 80] 81 78 true, 1, [86]), (jL 16 81 82 78, 0, [86]),
 (jA L1 82 83 78, 1, [86]), (jL 0 6 84 78, 0, [86]), (jA L2 84 85 78, 1, [86]), (iG (.call 46) [.t 83, .t 85] 86 78 true, 2, [86]), (jQ 78 86 87, 0, [])])
 (jI 87 (.any [95] [(jF 7 6 88, 0, [95]), (iU L8 88 89, 1, [95]), (iM 90 0, 0, [95]), (iM 91 7, 0, [95]), (iD (.iaS 21) 90 91 92, 1, [95]), (jF 0 92 93, 0, [95]),
 (iU L2 93 94, 1, [95]), (iD (.call 19) 89 94 95, 3, [95]), (jF 7 6 96, 0, []), (jW 8 96 95, 2, [])]))))) (.ops [iM 51 7, jK B2 51 1 52, iM 7 52]))))))
 (.ops [iM 97 3, iU (.ld 15 true) 6 98, iD (.call 47) 97 98 99, iM 3 99]))))))) (.ops [iM 13 4, jK B2 13 1 14, iM 4 14])))))) (jS [iM 100 3, iM 2 100] .ret))))
theorem fn15 : Bf Tryz.prog 15 = some (101, [.t 2], ir15) := by kernel_rfl
def ir16 : C := (jS [iU .box 1 3, iJ (.new (.agg [zI, zU, zF, zI, zU, zS, zV, zN])) [] 4] (.seq (.any [19, 5] [(jF 0 3 7, 0, [19, 5]), (iU L2 7 8, 1, [19, 5]),
 (jF 10 3 9, 0, [19, 5]), (iU L1 9 10, 1, [19, 5]), (jK B1 10 2 11, 0, [19, 5]), (jF 0 3 12, 0, [19, 5]), (iU L2 12 13, 1, [19, 5]), (jF 15 3 14, 0, [19, 5]),
 (iU L1 14 15, 1, [19, 5]), (iM 16 0, 0, [19, 5]), (jF 0 3 17, 0, [19, 5]), (iU L2 17 18, 1, [19, 5]), (iD (.call 48) 16 18 19, 1, [19, 5]),
 (iJ (.bld [2, 1, 2, 1, 8, 1]) [.t 8, .t 11, .t 13, .t 15, .c zV, .t 19] 20, 0, [5]), (iJ (.new (.agg [zI, zU, zF, zI, zU, zS, zV, zN])) [] 5, 1, [19, 5]), (jW 15 5 20, 2, [])])
 (.seq (jS [jC 0 6] (.block 0 (.loop (.seq (jS [iM 21 6, iM 22 0, iU .len 22 23, iD B3 21 23 24] (.ite (.t 24) .skip (.exit 0)))
 (.seq (.block 1 (.seq (.seq (.any [] [(iM 27 0, 0, []), (iM 28 6, 0, []), (iD (.iaS 21) 27 28 29, 1, []), (jF 11 29 30, 0, []), (iU L2 30 31, 1, []), (jF 0 3 32, 0, []),
 (iU L2 32 33, 1, []), (iD (.eqv true [.int .i64, .int .u32]) 31 33 34, 0, [])]) (jI 34 (.exit 1))) (.seq (.seq (.any [49] [(iM 35 0, 0, [49]), (iM 36 6, 0, [49]),
 (iD (.iaS 21) 35 36 37, 1, [49]), (jF 10 37 38, 0, [49]), (iU L1 38 39, 1, [49]), (jK B1 39 7 40, 0, [49]), (iM 41 40, 0, [49]), (jL 3 5 42 41, 0, [49]),
 (jA L2 42 43 41, 1, [49]), (jA .mv 0 44 41, 0, [49]), (jA .mv 6 45 41, 0, [49]), (iG (.iaS 21) [.t 44, .t 45] 46 41 true, 1, [49]), (jL 0 46 47 41, 0, [49]),
 (jA L2 47 48 41, 1, [49]), (iG (.call 17) [.t 43, .t 48] 49 41 true, 3, [49]), (jQ 41 49 50, 0, [])]) (jI 50 (.anyP [] [(iM 51 0, 0, [], [], 0),
 (iM 52 6, 0, [], [], 1), (iD (.iaS 21) 51 52 53, 1, [], [], 2), (jF 0 53 54, 0, [], [], 3), (iU L2 54 55, 1, [], [], 4), (iM 56 0, 0, [], [], 5), (iM 57 6, 0, [], [], 6),
 (iD (.iaS 21) 56 57 58, 1, [], [], 7), (jF 15 58 59, 0, [], [], 8), (iU L1 59 60, 1, [], [], 9), (jF 3 5 61, 0, [], [], 10), (jW 2 61 55, 2, [], [7, 9], 11),
 (jF 5 5 62, 0, [], [], 12), (jW 1 62 60, 2, [], [], 13)]))) (jS [iM 63 0, iM 64 6, iD (.iaS 21) 63 64 65, jF 10 65 66, iU L1 66 67, jK B1 67 6 68]
 (jI 68 (.any [81, 82] [(jF 6 5 69, 0, [81, 82]), (iU L8 69 70, 1, [81, 82]), (iM 71 0, 0, [81, 82]), (iM 72 6, 0, [81, 82]), (iD (.iaS 21) 71 72 73, 1, [81, 82]),
 (jF 2 73 74, 0, [81, 82]), (iU L8 74 75, 1, [81, 82]), (iM 76 0, 0, [81, 82]), (iM 77 6, 0, [81, 82]), (iD (.iaS 21) 76 77 78, 1, [81, 82]), (jF 0 78 79, 0, [81, 82]),
 (iU L2 79 80, 1, [81, 82]), (iD (.call 19) 75 80 81, 1, [81, 82]), (iD (.call 49) 70 81 82, 3, [82]), (jF 6 5 83, 0, []), (jW 8 83 82, 2, [])])))))) (.ops [iM 25 6,
 jK B2 25 1 26, iM 6 26])))))) (jS [iU (.ld 15 true) 5 84, jW 15 4 84] .ret))))
theorem fn16 : Bf Tryz.prog 16 = some (85, [.c 4 15 true], ir16) := by kernel_rfl
def ir17 : C := (jS [iU .box 0 2, iU .box 1 3, iJ .mv [.c zF] 4] (jS [jF 1 2 5, iU L1 5 6, jF 1 3 7, iU L1 7 8, iD B3 6 8 9, iM 10 9, jN 1 2 11 10,
 jB L1 11 12 10, jN 1 3 13 10, jB L1 13 14 10, iG B1 [.t 12, .t 14] 15 10 false, jB .mv 15 16 10, jL 0 2 17 16, jA L1 17 18 16, jL 0 3 19 16,
 jA L1 19 20 16, iG B3 [.t 18, .t 20] 21 16 true, iG .pick [.t 16, .t 21, .c zF] 22 10 false, jP 10 22 23, iM 4 23] .ret))
theorem fn17 : Bf Tryz.prog 17 = some (24, [.t 4], ir17) := by kernel_rfl
def ir18 : C := (jS [iU .box 0 2, iJ .mv [.c zU] 4] (.seq (jS [jC 0 5] (.block 0 (.loop (.seq (jS [iM 6 5, jK B3 6 8 7] (.ite (.t 7) .skip (.exit 0)))
 (.seq (.block 1 (jS [iM 10 5, jK B2 10 1 11, iM 12 1, iD B1 11 12 13] (jI 13 (jS [iM 14 5, iD (.iaA 8 1) 2 14 15, iU L1 15 16, iM 4 16] .ret)))) (.ops [iM 8 5,
 jK B2 8 1 9, iM 5 9])))))) (jS [iJ .mv [.c zU] 4] .ret)))
theorem fn18 : Bf Tryz.prog 18 = some (17, [.t 4], ir18) := by kernel_rfl
def ir19 : C := (jS [iU .box 0 2, iU .box 1 3, iJ (.new zV) [] 4] (.seq (.any [7, 8] [(iU L8 2 5, 1, [7, 8]), (iU L2 3 6, 1, [7, 8]), (iU (.call 50) 6 7, 1, [7, 8]),
 (iD (.call 49) 5 7 8, 3, [8]), (jW 8 4 8, 2, [])]) .ret))
theorem fn19 : Bf Tryz.prog 19 = some (9, [.c 4 8 true], ir19) := by kernel_rfl
def ir20 : C := (jS [iU .box 0 2, iU .box 1 3, jC 0 4] (.seq (jS [iU (.ld 21 true) 3 10, iU (.call 51) 10 11, iU U1 11 12] (jI 12 (jS [jC 7 4] .ret))) (.seq (jS [jF 0 2 13, iU L8 13 14, jF 0 3 15, iU L2 15 16, iD (.call 52) 14 16 17] (jI 17 (jS [jC 11 4] .ret)))
 (.seq (jS [jF 2 3 18, iU L8 18 19, jF 0 2 20, iU L8 20 21, iD (.call 53) 19 21 22, iU U1 22 23] (jI 23 (jS [jC 10 4] .ret)))
 (.seq (jS [jF 0 3 24, jF 0 24 25, iU L1 25 26, jK B5 26 1 27, jF 18 2 28, iD (.iaA 8 1) 28 27 29, iU L1 29 30] (jI 30 (jS [jC 28 4] .ret))) (.seq (jS [jF 10 3 31, iU L1 31 32, jK B1 32 8 33, iM 34 33, jN 10 3 35 34, jB L1 35 36 34, iG B1 [.t 36, cI 9] 37 34 false,
 jP 34 37 38] (jI 38 (jS [jC 0 4] .ret))) (.seq (jS [jF 10 3 39, iU L1 39 40, jK B1 40 1 41, iM 42 41,
 jN 10 3 43 42, jB L1 43 44 42, iG B1 [.t 44, cI 2] 45 42 false, jP 42 45 46] (jI 46 (jS [iU (.ld 26 true) 2 47, jF 13 3 48, iU L2 48 49,
 iD (.call 54) 47 49 50, iM 4 50] .ret))) (jS [iU (.ld 26 true) 2 52, jF 11 3 53, iU L2 53 54, iD (.call 55) 52 54 55, iM 51 55, iU (.ext 0) 51 56, iU (.ext 1) 51 57,
 iJ (.new (.agg [zI, zU, zF, zI, zU, zS, zV, zN])) [] 5, jW 15 5 56, iM 6 57] (.seq (jS [iM 58 6, iU U1 58 59] (jI 59 (jS [jC 2 4] .ret)))
 (.seq (jS [jF 10 3 60, iU L1 60 61, jK B1 61 7 62] (jI 62 (jS [iU (.ld 26 true) 2 63, jF 13 3 64, iU L2 64 65, iD (.call 54) 63 65 66, iM 4 66] .ret))) (.seq (jS [jF 10 3 67, iU L1 67 68, jK B1 68 6 69] (jI 69 (jS [jC 0 4] .ret))) (.seq (jS [jF 2 5 70, iU L1 70 71]
 (jI 71 (jS [jC 23 4] .ret))) (.seq (jS [jC 0 7] (.block 0 (.loop (.seq (jS [iM 72 7, jF 17 3 73, iU L1 73 74, iU .len 74 75,
 iD B3 72 75 76] (.ite (.t 76) .skip (.exit 0))) (.seq (.block 1 (.seq (.any [87] [(jF 14 5 80, 0, [87]), (iU L1 80 81, 1, [87]), (jF 17 3 82, 0, [87]), (iU L1 82 83, 1, [87]),
 (iM 84 7, 0, [87]), (iD (.iaS 2) 83 84 85, 1, [87]), (iU L2 85 86, 1, [87]), (iD (.call 56) 81 86 87, 3, [87]), (iM 79 87, 0, []), (iU (.ext 0) 79 88, 0, [87]), (iU (.ext 1) 79 89, 0, [87]),
 (iM 8 88, 0, []), (iM 9 89, 0, [])]) (jS [iM 90 9, jK B6 90 0 91] (jI 91 (jS [jC 2 4] .ret))))) (.ops [iM 77 7, jK B2 77 1 78, iM 7 78]))))))
 (jS [jC 0 4] .ret))))))))))))))
theorem fn20 : Bf Tryz.prog 20 = some (92, [.t 4], ir20) := by kernel_rfl
def ir21 : C := (jS [iJ .mv [.c zN] 2] (.seq (jS [iM 3 0] (jI 3 (jS [iJ (.bsl 1) [.c (.pv (.i .u8 1))] 4, iM 2 4] .ret))) (jS [iJ (.bsl 1) [] 5,
 iM 2 5] .ret)))
theorem fn21 : Bf Tryz.prog 21 = some (6, [.t 2], ir21) := by kernel_rfl
def ir22 : C := (jS [iU .box 0 1, iJ .mv [.c zN] 2] (jS [iU L8 1 3, iJ (.bldV 8 1) [.c zU, .c zU, .c zU, .c zU, .c zU, .c zU, .c zU, .c zU] 4, iD (.call 57) 3 4 5, iM 2 5] .ret))
theorem fn22 : Bf Tryz.prog 22 = some (6, [.t 2], ir22) := by kernel_rfl
def ir23 : C := (jS [iU .box 0 1, iJ .mv [.c zN] 2] (jS [iU L2 1 3, iU (.bsl 2) 3 4, iU (.call 58) 4 5, iM 2 5] .ret))
theorem fn23 : Bf Tryz.prog 23 = some (6, [.t 2], ir23) := by kernel_rfl
def ir24 : C := (jS [iJ .mv [.c zN] 2] (jS [iM 6 0, iU (.call 59) 6 7, iM 5 7, iU (.ext 0) 5 8, iU (.ext 1) 5 9, iM 3 8, iM 4 9] (jS [iM 10 3, iM 2 10] .ret)))
theorem fn24 : Bf Tryz.prog 24 = some (11, [.t 2], ir24) := by kernel_rfl
def ir26 : C := (jS [iJ .mv [.c (.pv (.v (.pointer none)))] 2] (jS [iM 6 0, iM 7 0, iU .len 7 8, iD (.call 60) 6 8 9, iM 5 9, iU (.ext 0) 5 10, iU (.ext 1) 5 11, iM 3 10, iM 4 11]
 (jS [iM 12 4, iU (.call 61) 12 13] (jS [iM 14 3, iU (.bld [1]) 14 15, iU .box 15 16, iM 2 16] .ret))))
theorem fn26 : Bf Tryz.prog 26 = some (17, [.t 2], ir26) := by kernel_rfl
def ir27 : C := (jS [iJ (.new zV) [] 2] (jS [iM 6 0, iU (.call 28) 6 7, iJ (.bldV 8 1) [.c zU, .c zU, .c zU, .c zU, .c zU, .c zU, .c zU, .c zU] 8, iD (.call 62) 7 8 9, iM 5 9,
 iU (.ext 0) 5 10, iU (.ext 1) 5 11, iJ (.new zV) [] 3, jW 8 3 10, iM 4 11] (jS [iM 12 4, iU (.call 61) 12 13] (jS [iU L8 3 14, jW 8 2 14] .ret))))
theorem fn27 : Bf Tryz.prog 27 = some (15, [.c 2 8 true], ir27) := by kernel_rfl
def ir28 : C := (jS [iJ .mv [.c zN] 2] (.seq (jS [iM 4 0, iU .nilc 4 5, jF 0 5 6, iU L1 6 7, iU .len 7 8, jK B1 8 0 9] (jI 9 .bad)) (jS [iM 11 0,
 iU .nilc 11 12, jF 0 12 13, iU L1 13 14, jK (.iaS 1) 14 0 15, iU L1 15 16, iM 3 16] (jS [iM 17 0, iM 18 0, iU .nilc 18 19, jF 0 19 20, iU L1 20 21,
 jK (.slc 1 true false false) 21 1 22, iU .nilc 17 23, jF 0 23 24, jW 1 24 22] (jS [iM 25 3, iM 2 25] .ret)))))
theorem fn28 : Bf Tryz.prog 28 = some (26, [.t 2], ir28) := by kernel_rfl
def ir29 : C := (jS [iJ (.new (.agg [zI, zU, zF, zI, zU, zS, zV, zN])) [] 2] (jS [iM 6 0, iU (.call 26) 6 7, iM 3 7] (jS [iM 8 3, iU (.call 30) 8 9, iM 10 3,
 iU (.call 28) 10 11, iU .len 11 12, jK B4 12 0 13, iM 14 3, iU (.call 30) 14 15, iJ (.bld [2, 1, 2, 1, 8, 1]) [.t 9, .t 13, .t 15, .c zS, .c zV, .c zN] 16,
 iJ (.new (.agg [zI, zU, zF, zI, zU, zS, zV, zN])) [] 4, jW 15 4 16] (jS [iM 17 3, iU (.call 28) 17 18, iU .b2s 18 19, jF 5 4 20, jW 1 20 19]
 (jS [iM 21 3, iU (.call 27) 21 22, jF 6 4 23, jW 8 23 22] (.seq (.block 0 (.loop (.seq (jS [iM 24 3, iU .nilc 24 25, jF 0 25 26, iU L1 26 27,
 iU .len 27 28, jK B4 28 0 29] (.ite (.t 29) .skip (.exit 0))) (.block 1 (jS [iM 30 3, iU (.call 30) 30 31, iJ (.bld [2, 1, 8]) [.t 31, .c zS, .c zV] 32,
 iJ (.new (.agg [zI, zU, zS, zV])) [] 5, jW 11 5 32] (jS [iM 33 3, iU (.call 28) 33 34, iU .b2s 34 35, jF 2 5 36, jW 1 36 35] (jS [iM 37 3,
 iU (.call 27) 37 38, jF 3 5 39, jW 8 39 38] (.ops [jF 14 4 40, iU L1 40 41, iU (.ld 11 true) 5 42, iU (.bsl 11) 42 43, iD (.app 11 64) 41 43 44, jF 14 4 45,
 jW 1 45 44])))))))) (jS [iU (.ld 15 true) 4 46, jW 15 2 46] .ret)))))))
theorem fn29 : Bf Tryz.prog 29 = some (47, [.c 2 15 true], ir29) := by kernel_rfl
def ir30 : C := (jS [iJ (.new (.agg [zI, zU])) [] 2] (jS [iM 6 0, iU (.call 28) 6 7, jK (.call 63) 7 1 8, iM 5 8, iU (.ext 0) 5 9, iU (.ext 1) 5 10, iM 3 9, iM 4 10]
 (jS [iM 11 4, iU (.call 61) 11 12] (.seq (jS [iM 13 3, iU .len 13 14, jK B6 14 1 15] (jI 15 .bad)) (jS [iM 17 3, jK (.iaS 2) 17 0 18,
 iU L2 18 19, jW 2 2 19] .ret)))))
theorem fn30 : Bf Tryz.prog 30 = some (20, [.c 2 2 true], ir30) := by kernel_rfl
def ir31 : C := (jS [iU .box 0 1, iJ .mv [.c zF] 2] (.seq (jS [jF 8 1 5, iU L1 5 6, iU .len 6 7, jC 0 8] (.block 0 (.loop (jS [iD B3 8 7 9]
 (.seq (.ite (.t 9) .skip (.exit 0)) (.seq (.block 1 (jS [iD (.iaS 15) 6 8 10, iU (.ld 15 true) 10 11, iJ (.new (.agg [zI, zU, zF, zI, zU, zS, zV, zN])) [] 4, jW 15 4 11]
 (jS [jF 14 4 12, iU L1 12 13, iJ (.call 64) [.t 13, .c (.fn (.func 65) [])] 14, iU U1 14 15] (jI 15 (jS [iJ .mv [.c zF] 2] .ret))))) (.ops [jK B2 8 1 16,
 iM 8 16]))))))) (jS [jF 8 1 17, iU L1 17 18, iJ (.call 66) [.t 18, .c (.fn (.func 67) [])] 19, iM 20 19, jL 9 1 21 20, jA L1 21 22 20,
 iG (.call 68) [.t 22, .c (.fn (.func 69) [])] 23 20 true, jQ 20 23 24, iM 2 24] .ret)))
theorem fn31 : Bf Tryz.prog 31 = some (25, [.t 2], ir31) := by kernel_rfl
def ir32 : C := (jS [iJ .mv [.c zF] 4] (.seq (jS [iM 6 0, iU .len 6 7, iM 8 1, iU .len 8 9, iD B6 7 9 10] (jI 10 (jS [iJ .mv [.c zF] 4] .ret)))
 (.seq (jS [jC 0 5] (.block 0 (.loop (.seq (jS [iM 11 5, iM 12 0, iU .len 12 13, iD B3 11 13 14] (.ite (.t 14) .skip (.exit 0)))
 (.seq (.block 1 (.seq (.any [] [(iM 17 0, 0, []), (iM 18 5, 0, []), (iD (.iaS 15) 17 18 19, 1, []), (iU (.ld 15 true) 19 20, 1, []), (iM 21 1, 0, []), (iM 22 5, 0, []),
 (iD (.iaS 15) 21 22 23, 1, []), (iU (.ld 15 true) 23 24, 1, []),
 (iD (.eqv true [.int .i64, .int .u32, .int .i64, .int .u32, .str, .int .i64, .int .u32, .int .u32, .int .u32, .int .u32, .int .u32, .int .u32, .int .u32, .int .u32, .int .u32]) 20 24 25, 0, [])])
 (jI 25 (jS [iJ .mv [.c zF] 4] .ret)))) (.ops [iM 15 5, jK B2 15 1 16, iM 5 16])))))) (jS [iJ .mv [.c zT] 4] .ret))))
theorem fn32 : Bf Tryz.prog 32 = some (26, [.t 4], ir32) := by kernel_rfl
def ir33 : C := (jS [iJ .mv [.c zF] 4] (.seq (jS [iM 6 0, iU .len 6 7, iM 8 1, iU .len 8 9, iD B6 7 9 10] (jI 10 (jS [iJ .mv [.c zF] 4] .ret)))
 (.seq (jS [jC 0 5] (.block 0 (.loop (.seq (jS [iM 11 5, iM 12 0, iU .len 12 13, iD B3 11 13 14] (.ite (.t 14) .skip (.exit 0)))
 (.seq (.block 1 (.seq (.any [] [(iM 17 0, 0, []), (iM 18 5, 0, []), (iD (.iaS 11) 17 18 19, 1, []), (iU (.ld 11 true) 19 20, 1, []), (iM 21 1, 0, []), (iM 22 5, 0, []),
 (iD (.iaS 11) 21 22 23, 1, []), (iU (.ld 11 true) 23 24, 1, []),
 (iD (.eqv true [.int .i64, .int .u32, .str, .int .u32, .int .u32, .int .u32, .int .u32, .int .u32, .int .u32, .int .u32, .int .u32]) 20 24 25, 0, [])]) (jI 25 (jS [iJ .mv [.c zF] 4]
 .ret)))) (.ops [iM 15 5, jK B2 15 1 16, iM 5 16])))))) (jS [iJ .mv [.c zT] 4] .ret))))
theorem fn33 : Bf Tryz.prog 33 = some (26, [.t 4], ir33) := by kernel_rfl
def ir41 : C := (jS [iJ .mv [.c zN] 2] (.seq (jS [iM 3 0, iU (.eqn false) 3 4] (jI 4 (jS [iJ .mv [.c zN] 2] .ret))) (jS [iJ (.bsl 11) [] 5, iM 6 0,
 iD (.app 11 64) 5 6 7, iM 2 7] .ret)))
theorem fn41 : Bf Tryz.prog 41 = some (8, [.t 2], ir41) := by kernel_rfl
def ir46 : C := (jS [iU .box 1 3, iJ .mv [.c zF] 4] (.seq (jS [jC 0 5] (.block 0 (.loop (.seq (jS [iM 6 5, iM 7 0, iU .len 7 8, iD B3 6 8 9] (.ite (.t 9) .skip
 (.exit 0))) (.seq (.block 1 (.seq (.any [] [(iM 12 0, 0, []), (iM 13 5, 0, []), (iD (.iaS 2) 12 13 14, 1, []), (iU L2 14 15, 1, []), (iU L2 3 16, 1, []),
 (iD (.eqv false [.int .i64, .int .u32]) 15 16 17, 0, [])]) (jI 17 (jS [iJ .mv [.c zT] 4] .ret)))) (.ops [iM 10 5, jK B2 10 1 11, iM 5 11]))))))
 (jS [iJ .mv [.c zF] 4] .ret)))
theorem fn46 : Bf Tryz.prog 46 = some (18, [.t 4], ir46) := by kernel_rfl
def ir47 : C := (jS [iU .box 1 3, iJ .mv [.c zN] 4] (jS [iJ .mv [.c zN] 5] (jS [iJ .mv [.c zF] 6] (.seq (jS [jC 0 7]
 (.block 0 (.loop (.seq (jS [iM 9 7, iM 10 0, iU .len 10 11, iD B3 9 11 12] (.ite (.t 12) .skip (.exit 0))) (.seq (.block 1 (.seq (.seq (.any [] [(iM 15 0, 0, []), (iM 16 7, 0, []),
 (iD (.iaS 15) 15 16 17, 1, []), (jF 0 17 18, 0, []), (iU L2 18 19, 1, []), (jF 0 3 20, 0, []), (iU L2 20 21, 1, []), (iD (.eqv false [.int .i64, .int .u32]) 19 21 22, 0, [])])
 (jI 22 (jS [iM 23 0, iM 24 7, iD (.iaS 15) 23 24 25, iU (.ld 15 true) 25 26, iJ (.new (.agg [zI, zU, zI, zU, zS, zI, zU, zV])) [] 8, jW 15 8 26]
 (jS [jF 7 8 27, iU L8 27 28, jF 7 3 29, iU L8 29 30, iD (.call 49) 28 30 31, jF 7 8 32, jW 8 32 31] (jS [iM 33 5, iU (.ld 15 true) 8 34,
 iU (.bsl 15) 34 35, iD (.app 15 96) 33 35 36, iM 5 36] (jS [iJ .mv [.c zT] 6] (.exit 1))))))) (.seq (.seq (.any [47] [(iM 37 6, 0, [47]), (iU U1 37 38, 0, [47]), (iM 39 38, 0, [47]),
 (jL 0 3 40 39, 0, [47]), (jA L2 40 41 39, 1, [47]), (jA .mv 0 42 39, 0, [47]), (jA .mv 7 43 39, 0, [47]), (iG (.iaS 15) [.t 42, .t 43] 44 39 true, 1, [47]),
 (jL 0 44 45 39, 0, [47]), (jA L2 45 46 39, 1, [47]), (iG (.call 17) [.t 41, .t 46] 47 39 true, 3, [47]), (jQ 39 47 48, 0, [])])
 (jI 48 (jS [iM 49 5, iU (.ld 15 true) 3 50, iU (.bsl 15) 50 51, iD (.app 15 96) 49 51 52, iM 5 52] (.ops [iJ .mv [.c zT] 6])))) (.ops [iM 53 5, iM 54 0, iM 55 7,
 iD (.iaS 15) 54 55 56, iU (.ld 15 true) 56 57, iU (.bsl 15) 57 58, iD (.app 15 96) 53 58 59, iM 5 59])))) (.ops [iM 13 7, jK B2 13 1 14, iM 7 14])))))) (.seq (jS [iM 60 6,
 iU U1 60 61] (jI 61 (.ops [iM 62 5, iU (.ld 15 true) 3 63, iU (.bsl 15) 63 64, iD (.app 15 96) 62 64 65, iM 5 65]))) (jS [iM 66 5, iM 4 66] .ret))))))
theorem fn47 : Bf Tryz.prog 47 = some (67, [.t 4], ir47) := by kernel_rfl
def ir48 : C := (jS [iU .box 1 3, iJ .mv [.c zN] 4] (jS [iJ .mv [.c zN] 5] (.seq (jS [jC 0 6] (.block 0 (.loop (.seq (jS [iM 9 6, iM 10 0, iU .len 10 11,
 iD B3 9 11 12] (.ite (.t 12) .skip (.exit 0))) (.seq (.block 1 (.seq (.seq (.any [19] [(iM 15 0, 0, [19]), (iM 16 6, 0, [19]), (iD (.iaS 21) 15 16 17, 1, [19]), (iU (.ld 21 true) 17 18, 1, [19]),
 (iU (.call 86) 18 19, 3, [19]), (iU U1 19 20, 0, []), (iM 21 20, 0, []), (jB .mv 0 22 21, 0, [19]), (jB .mv 6 23 21, 0, [19]), (iG (.iaS 21) [.t 22, .t 23] 24 21 false, 1, [19]),
 (jN 11 24 25 21, 0, [19]), (jB L2 25 26 21, 1, [19]), (jB L2 3 27 21, 1, [19]), (iG (.eqv true [.int .i64, .int .u32]) [.t 26, .t 27] 28 21 false, 0, [19]),
 (jP 21 28 29, 0, [19])]) (jI 29 (.exit 1))) (.seq (.any [41, 7] [(iM 30 0, 0, [41, 7]), (iM 31 6, 0, [41, 7]), (iD (.iaS 21) 30 31 32, 1, [41, 7]),
 (jF 0 32 33, 0, [41, 7]), (iU L2 33 34, 1, [41, 7]), (iM 35 0, 0, [41, 7]), (iM 36 0, 0, [41, 7]), (iM 37 6, 0, [41, 7]), (iD (.iaS 21) 36 37 38, 1, [41, 7]), (jF 0 38 39, 0, [41, 7]),
 (iU L2 39 40, 1, [41, 7]), (iD (.call 87) 35 40 41, 1, [41, 7]), (iJ (.bld [2, 1, 8]) [.t 34, .t 41, .c zV] 42, 0, [7]), (iJ (.new (.agg [zI, zU, zS, zV])) [] 7, 1, [41, 7]),
 (jW 11 7 42, 2, [])]) (.seq (jS [jC 0 8] (.block 2 (.loop (.seq (jS [iM 43 8, iM 44 0, iU .len 44 45, iD B3 43 45 46] (.ite (.t 46) .skip (.exit 2)))
 (.seq (.block 3 (.seq (.any [53, 71] [(iM 49 0, 0, [53, 71]), (iM 50 8, 0, [53, 71]), (iD (.iaS 21) 49 50 51, 1, [53, 71]), (iU (.ld 21 true) 51 52, 1, [53, 71]), (iU (.call 86) 52 53, 3, [53, 71]),
 (iM 54 53, 0, [71]), (jA .mv 0 55 54, 0, [53, 71]), (jA .mv 8 56 54, 0, [53, 71]), (iG (.iaS 21) [.t 55, .t 56] 57 54 true, 1, [53, 71]), (jL 11 57 58 54, 0, [53, 71]),
 (jA L2 58 59 54, 1, [53, 71]), (jA L2 3 60 54, 1, [53, 71]), (iG (.eqv false [.int .i64, .int .u32]) [.t 59, .t 60] 61 54 true, 0, [53, 71]),
 (jQ 54 61 62, 0, [53, 71]), (iM 63 62, 0, [53, 71]), (jA .mv 0 64 63, 0, [53, 71]), (jA .mv 8 65 63, 0, [53, 71]),
 (iG (.iaS 21) [.t 64, .t 65] 66 63 true, 1, [53, 71]), (jL 17 66 67 63, 0, [53, 71]), (jA L1 67 68 63, 1, [53, 71]), (jL 0 7 69 63, 0, [53, 71]),
 (jA L2 69 70 63, 1, [53, 71]), (iG (.call 46) [.t 68, .t 70] 71 63 true, 2, [53, 71]), (jQ 63 71 72, 0, [53])]) (jI 72 (.any [80] [(jF 3 7 73, 0, [80]),
 (iU L8 73 74, 1, [80]), (iM 75 0, 0, [80]), (iM 76 8, 0, [80]), (iD (.iaS 21) 75 76 77, 1, [80]), (jF 0 77 78, 0, [80]), (iU L2 78 79, 1, [80]), (iD (.call 19) 74 79 80, 3, [80]),
 (jF 3 7 81, 0, []), (jW 8 81 80, 2, [])])))) (.ops [iM 47 8, jK B2 47 1 48, iM 8 48])))))) (.ops [iM 83 5, iU (.ld 11 true) 7 84,
 iJ (.call 88) [.t 83, .c zN, .t 84] 85, iM 82 85, iU (.ext 0) 82 86, iU (.ext 1) 82 87, iM 5 86]))))) (.ops [iM 13 6, jK B2 13 1 14, iM 6 14])))))) (jS [iM 88 5, iM 4 88] .ret))))
theorem fn48 : Bf Tryz.prog 48 = some (89, [.t 4], ir48) := by kernel_rfl
def ir49 : C := (jS [iU .box 0 2, iU .box 1 3, iJ (.new zV) [] 4] (jS [iJ (.bldV 8 1) [.c zU, .c zU, .c zU, .c zU, .c zU, .c zU, .c zU, .c zU] 7, iJ (.new zV) [] 5,
 jW 8 5 7] (.seq (jS [jC 0 6] (.block 0 (.loop (.seq (jS [iM 8 6, jK B3 8 8 9] (.ite (.t 9) .skip (.exit 0))) (.seq (.block 1 (jS [iM 12 6,
 iM 13 6, iD (.iaA 8 1) 2 13 14, iU L1 14 15, iD (.iaA 8 1) 5 12 16, jW 1 16 15] (.seq (.any [] [(iM 17 6, 0, []), (iD (.iaA 8 1) 3 17 18, 0, []), (iU L1 18 19, 1, []), (iM 20 6, 0, []),
 (iD (.iaA 8 1) 2 20 21, 0, []), (iU L1 21 22, 1, []), (iD B4 19 22 23, 0, [])]) (jI 23 (.ops [iM 24 6, iM 25 6, iD (.iaA 8 1) 3 25 26, iU L1 26 27, iD (.iaA 8 1) 5 24 28,
 jW 1 28 27]))))) (.ops [iM 10 6, jK B2 10 1 11, iM 6 11])))))) (jS [iU L8 5 29, jW 8 4 29] .ret))))
theorem fn49 : Bf Tryz.prog 49 = some (30, [.c 4 8 true], ir49) := by kernel_rfl
def ir50 : C := (jS [iU .box 0 1, iJ (.new zV) [] 2] (jS [iJ (.bldV 8 1) [.c zU, .c zU, .c zU, .c zU, .c zU, .c zU, .c zU, .c zU] 5, iJ (.new zV) [] 3, jW 8 3 5]
 (.seq (jS [jC 0 4] (.block 0 (.loop (.seq (jS [iM 6 4, jK B3 6 8 7] (.ite (.t 7) .skip (.exit 0))) (.seq (.block 1 (jS [iM 10 4, jK B2 10 1 11,
 jF 0 1 12, iU L1 12 13, iD B1 11 13 14] (jI 14 (.ops [iM 15 4, jF 1 1 16, iU L1 16 17, iD (.iaA 8 1) 3 15 18, jW 1 18 17])))) (.ops [iM 8 4, jK B2 8 1 9,
 iM 4 9])))))) (jS [iU L8 3 19, jW 8 2 19] .ret))))
theorem fn50 : Bf Tryz.prog 50 = some (20, [.c 2 8 true], ir50) := by kernel_rfl
def ir51 : C := (jS [iU .box 0 1, iJ .mv [.c zF] 2] (.seq (.seq (.any [37] [(jF 0 1 9, 0, [37]), (jF 0 9 10, 0, [37]), (iU L1 10 11, 1, [37]), (jK B3 11 1 12, 0, [37]),
 (iM 13 12, 0, [37]), (jN 0 1 14 13, 0, [37]), (jN 0 14 15 13, 0, [37]), (jB L1 15 16 13, 1, [37]), (iG B4 [.t 16, cI 8] 17 13 false, 0, [37]),
 (jP 13 17 18, 0, [37]), (iM 19 18, 0, [37]), (jN 0 1 20 19, 0, [37]), (jN 1 20 21 19, 0, [37]), (jB L1 21 22 19, 1, [37]),
 (iG B3 [.t 22, .c (.pv (.i .u32 1))] 23 19 false, 0, [37]), (jP 19 23 24, 0, [37]), (iM 25 24, 0, [37]), (jN 0 1 26 25, 0, [37]),
 (jN 1 26 27 25, 0, [37]), (jB L1 27 28 25, 1, [37]), (iG B4 [.t 28, .c (.pv (.i .u32 1048576))] 29 25 false, 0, [37]), (jP 25 29 30, 0, [37]),
 (iM 31 30, 0, [37]), (jN 2 1 32 31, 0, [37]), (jB L8 32 33 31, 1, [37]), (jN 0 1 34 31, 0, [37]), (jN 0 34 35 31, 0, [37]), (jB L1 35 36 31, 1, [37]),
 (iG (.call 18) [.t 33, .t 36] 37 31 false, 1, [37]), (iG B2 [.t 37, .c (.pv (.i .u32 1))] 38 31 false, 0, []), (jN 0 1 39 31, 0, [37]), (jN 1 39 40 31, 0, [37]),
 (jB L1 40 41 31, 1, [37]), (iG B6 [.t 38, .t 41] 42 31 false, 0, [37]), (jP 31 42 43, 0, [37])]) (jI 43 (jS [iJ .mv [.c zF] 2] .ret)))
 (.seq (jS [jC 0 3] (.block 0 (.loop (.seq (jS [iM 44 3, jK B3 44 8 45] (.ite (.t 45) .skip (.exit 0))) (.seq (.block 1 (jS [iM 48 3, jF 2 1 49,
 iD (.iaA 8 1) 49 48 50, iU L1 50 51, iJ B4 [.t 51, .c (.pv (.i .u32 1048576))] 52] (jI 52 (jS [iJ .mv [.c zF] 2] .ret)))) (.ops [iM 46 3, jK B2 46 1 47, iM 3 47]))))))
 (.seq (.any [57, 60, 66] [(jF 2 1 53, 0, [57, 60, 66]), (iU L8 53 54, 1, [57, 60, 66]), (jF 11 1 55, 0, [57, 60, 66]), (iU L2 55 56, 1, [57, 60, 66]),
 (iD (.call 52) 54 56 57, 1, [57, 60, 66]), (jF 13 1 58, 0, [57, 60, 66]), (iU L2 58 59, 1, [57, 60, 66]), (iU (.call 89) 59 60, 3, [60, 66]), (iM 61 60, 0, [57, 66]),
 (jN 2 1 62 61, 0, [57, 60, 66]), (jB L8 62 63 61, 1, [57, 60, 66]), (jN 13 1 64 61, 0, [57, 60, 66]), (jB L2 64 65 61, 1, [57, 60, 66]),
 (iG (.call 52) [.t 63, .t 65] 66 61 false, 3, [57, 60, 66]), (jP 61 66 67, 0, [57, 60]), (iM 4 57, 0, [60]), (iM 5 67, 0, [])])
 (.seq (.any [77, 83] [(jF 16 1 68, 0, [77, 83]), (iU L1 68 69, 1, [77, 83]), (iU .len 69 70, 1, [77, 83]), (jK B7 70 8 71, 0, [77, 83]), (iM 72 71, 0, [77, 83]),
 (jL 16 1 73 72, 0, [77, 83]), (jA L1 73 74 72, 1, [77, 83]), (jL 2 1 75 72, 0, [77, 83]), (jA L8 75 76 72, 1, [77, 83]),
 (iG (.call 90) [.t 74, .t 76] 77 72 true, 1, [77, 83]), (jQ 72 77 78, 0, [83]), (jF 17 1 79, 0, [77, 83]), (iU L1 79 80, 1, [77, 83]), (jF 2 1 81, 0, [77, 83]),
 (iU L8 81 82, 1, [77, 83]), (iD (.call 90) 80 82 83, 2, [83]), (iM 6 78, 0, []), (iM 7 83, 0, [])]) (jS [jF 18 1 84, iU L1 84 85, jK B8 85 0 86, iM 87 86,
 jL 18 1 88 87, jA L1 88 89 87, iG B7 [.t 89, cI 200] 90 87 true, jQ 87 90 91, iM 8 91] (.seq (jS [jF 10 1 92, iU L1 92 93]
 (.block 2 (.seq (jS [jK B1 93 1 95, iM 94 95] (.ite (.t 94) .skip (.ops [jK B1 93 2 96, iM 94 96]))) (.ite (.t 94) (jS [iM 97 5, iM 98 97, jL 15 1 99 98,
 jA L1 99 100 98, jA (.call 91) 100 101 98, jQ 98 101 102, iM 103 102, jA (.ld 21 true) 1 104 103,
 iG (.call 92) [.t 104, .c zF, .c zT, .c zF, .c zF, .c zF, .c zF, .c zF] 105 103 true, jQ 103 105 106, iM 2 106] .ret) (jS [jK B1 93 3 108, iM 107 108]
 (.ite (.t 107) (jS [iM 109 4, iM 110 109, jA .mv 7 111 110, jQ 110 111 112, iM 113 112, jL 17 1 114 113, jA L1 114 115 113,
 jA .len 115 116 113, iG B7 [.t 116, cI 1] 117 113 true, jQ 113 117 118, iM 119 118, jA .mv 8 120 119, jQ 119 120 121, iM 122 121,
 jL 19 1 123 122, jA L1 123 124 122, iG B6 [.t 124, .c zS] 125 122 true, jQ 122 125 126, iM 127 126, jL 19 1 128 127, jA L1 128 129 127,
 jA .lenS 129 130 127, jL 18 1 131 127, jA L1 131 132 127, iG B5 [cI 200, .t 132] 133 127 true, iG B7 [.t 130, .t 133] 134 127 true, jQ 127 134 135,
 iM 136 135, jA (.ld 21 true) 1 137 136, iG (.call 92) [.t 137, .c zT, .c zF, .c zF, .c zT, .c zT, .c zT, .c zF] 138 136 true, jQ 136 138 139, iM 2 139] .ret)
 (jS [jK B1 93 4 141, iM 140 141] (.ite (.t 140) (jS [iM 142 4, iM 143 142, jA .mv 7 144 143, jQ 143 144 145, iM 146 145,
 jL 17 1 147 146, jA L1 147 148 146, jA .len 148 149 146, iG B7 [.t 149, cI 1] 150 146 true, jQ 146 150 151, iM 152 151, jA .mv 8 153 152,
 jQ 152 153 154, iM 155 154, jA (.ld 21 true) 1 156 155, iG (.call 92) [.t 156, .c zT, .c zF, .c zF, .c zT, .c zT, .c zF, .c zF] 157 155 true,
 jQ 155 157 158, iM 2 158] .ret) (jS [jK B1 93 5 160, iM 159 160] (.ite (.t 159) (jS [iM 161 4, iM 162 161, jA .mv 7 163 162,
 jQ 162 163 164, iM 165 164, jL 17 1 166 165, jA L1 166 167 165, jA .len 167 168 165, iG B8 [.t 168, cI 2] 169 165 true,
 jQ 165 169 170, iM 171 170, jL 17 1 172 171, jA L1 172 173 171, jA .len 173 174 171, iG B7 [.t 174, cI 8] 175 171 true,
 jQ 171 175 176, iM 177 176, jL 19 1 178 177, jA L1 178 179 177, jA .lenS 179 180 177, iG B7 [.t 180, cI 200] 181 177 true,
 jQ 177 181 182, iM 183 182, jA (.ld 21 true) 1 184 183, iG (.call 92) [.t 184, .c zT, .c zF, .c zF, .c zT, .c zF, .c zT, .c zF] 185 183 true,
 jQ 183 185 186, iM 2 186] .ret) (jS [jK B1 93 6 188, iM 187 188] (.ite (.t 187) (jS [iM 189 4, iM 190 189, jA .mv 6 191 190,
 jQ 190 191 192, iM 193 192, jA (.ld 21 true) 1 194 193, iG (.call 92) [.t 194, .c zT, .c zF, .c zT, .c zF, .c zF, .c zF, .c zF] 195 193 true,
 jQ 193 195 196, iM 2 196] .ret) (jS [jK B1 93 7 198, iM 197 198] (.ite (.t 197) (jS [iM 199 4, iM 200 199, jA .mv 6 201 200,
 jQ 200 201 202, iM 203 202, jA .mv 5 204 203, jQ 203 204 205, iM 206 205, jL 15 1 207 206, jA L1 207 208 206,
 jA (.call 91) 208 209 206, jQ 206 209 210, iM 211 210, jA (.ld 21 true) 1 212 211,
 iG (.call 92) [.t 212, .c zT, .c zT, .c zT, .c zF, .c zF, .c zF, .c zF] 213 211 true, jQ 211 213 214, iM 2 214] .ret) (jS [jK B1 93 8 216, iM 215 216]
 (.ite (.t 215) (jS [jF 20 1 217, iU L1 217 218, jK B8 218 1 219, iM 220 219, jL 20 1 221 220, jA L1 221 222 220, iG B7 [.t 222, cI 4] 223 220 true,
 jQ 220 223 224, iM 225 224, jA (.ld 21 true) 1 226 225, iG (.call 92) [.t 226, .c zF, .c zF, .c zF, .c zF, .c zF, .c zF, .c zT] 227 225 true,
 jQ 225 227 228, iM 2 228] .ret) (jS [jK B1 93 9 230, iM 229 230] (jI 229 (jS [iU (.ld 21 true) 1 231,
 iJ (.call 92) [.t 231, .c zF, .c zF, .c zF, .c zF, .c zF, .c zF, .c zF] 232, iM 2 232] .ret))))))))))))))))))) (jS [iJ .mv [.c zF] 2] .ret))))))))
theorem fn51 : Bf Tryz.prog 51 = some (233, [.t 2], ir51) := by kernel_rfl
def ir52 : C := (jS [iU .box 0 2, iU .box 1 3, iJ .mv [.c zF] 4] (.seq (.any [12] [(jF 1 3 5, 0, [12]), (iU L1 5 6, 1, [12]), (iJ B4 [.t 6, .c zU] 7, 0, [12]), (iM 8 7, 0, [12]),
 (jA L8 2 9 8, 1, [12]), (jL 0 3 10 8, 0, [12]), (jA L1 10 11 8, 1, [12]), (iG (.call 18) [.t 9, .t 11] 12 8 true, 1, [12]), (jL 1 3 13 8, 0, [12]),
 (jA L1 13 14 8, 1, [12]), (iG B8 [.t 12, .t 14] 15 8 true, 0, []), (jQ 8 15 16, 0, [12]), (iM 4 16, 0, [])]) .ret))
theorem fn52 : Bf Tryz.prog 52 = some (17, [.t 4], ir52) := by kernel_rfl
def ir53 : C := (jS [iU .box 0 2, iU .box 1 3, iJ .mv [.c zF] 4] (jS [iU L8 2 5, iU L8 3 6, iD (.call 93) 5 6 7, jK B7 7 0 8, iM 4 8] .ret))
theorem fn53 : Bf Tryz.prog 53 = some (9, [.t 4], ir53) := by kernel_rfl
def ir54 : C := (jS [iU .box 0 2, iU .box 1 3, jC 0 4] (.seq (jS [iU L2 3 7, iU (.call 94) 7 8] (jI 8 (jS [jC 0 4] .ret)))
 (jS [iU (.ld 26 true) 2 10, iU L2 3 11, iD (.call 55) 10 11 12, iM 9 12, iU (.ext 0) 9 13, iU (.ext 1) 9 14, iJ (.new (.agg [zI, zU, zF, zI, zU, zS, zV, zN])) [] 5,
 jW 15 5 13, iM 6 14] (.seq (jS [iM 15 6, iU U1 15 16] (jI 16 (jS [jC 2 4] .ret))) (.seq (jS [jF 2 5 17, iU L1 17 18,
 iU U1 18 19] (jI 19 (jS [jC 22 4] .ret))) (jS [jC 0 4] .ret))))))
theorem fn54 : Bf Tryz.prog 54 = some (20, [.t 4], ir54) := by kernel_rfl
def ir55 : C := (jS [iU .box 0 2, iU .box 1 3, iJ (.new (.agg [zI, zU, zF, zI, zU, zS, zV, zN])) [] 4, iJ .mv [.c zF] 5] (.seq (jS [jC 0 6]
 (.block 0 (.loop (.seq (jS [iM 7 6, jF 8 2 8, iU L1 8 9, iU .len 9 10, iD B3 7 10 11] (.ite (.t 11) .skip (.exit 0))) (.seq (.block 1 (.seq (.any [] [(jF 8 2 14, 0, []),
 (iU L1 14 15, 1, []), (iM 16 6, 0, []), (iD (.iaS 15) 15 16 17, 1, []), (jF 0 17 18, 0, []), (iU L2 18 19, 1, []), (iU L2 3 20, 1, []),
 (iD (.eqv false [.int .i64, .int .u32]) 19 20 21, 0, [])]) (jI 21 (jS [jF 8 2 22, iU L1 22 23, iM 24 6, iD (.iaS 15) 23 24 25, iU (.ld 15 true) 25 26, jW 15 4 26,
 iJ .mv [.c zT] 5] .ret)))) (.ops [iM 12 6, jK B2 12 1 13, iM 6 13]))))))
 (jS [iJ (.bld [2, 1, 2, 1, 8, 1]) [.c (.agg [zI, zU]), .c zF, .c (.agg [zI, zU]), .c zS, .c zV, .c zN] 27, jW 15 4 27, iJ .mv [.c zF] 5] .ret)))
theorem fn55 : Bf Tryz.prog 55 = some (28, [.c 4 15 true, .t 5], ir55) := by kernel_rfl
def ir56 : C := (jS [iU .box 1 3, iJ .mv [.c zS] 4, jC 0 5] (.seq (jS [jF 0 3 7, iU L1 7 8, jK B1 8 0 9, iM 10 9, jL 1 3 11 10, jA L1 11 12 10,
 iG B1 [.t 12, .c zU] 13 10 true, jQ 10 13 14] (jI 14 (jS [iJ .mv [.c zS] 4, jC 0 5] .ret))) (.seq (jS [jC 0 6]
 (.block 0 (.loop (.seq (jS [iM 15 6, iM 16 0, iU .len 16 17, iD B3 15 17 18] (.ite (.t 18) .skip (.exit 0))) (.seq (.block 1 (.seq (.any [] [(iM 21 0, 0, []), (iM 22 6, 0, []),
 (iD (.iaS 11) 21 22 23, 1, []), (jF 0 23 24, 0, []), (iU L2 24 25, 1, []), (iU L2 3 26, 1, []), (iD (.eqv false [.int .i64, .int .u32]) 25 26 27, 0, [])]) (jI 27 (jS [iM 28 0,
 iM 29 6, iD (.iaS 11) 28 29 30, jF 2 30 31, iU L1 31 32, iM 4 32, jC 0 5] .ret)))) (.ops [iM 19 6, jK B2 19 1 20, iM 6 20])))))) (jS [iJ .mv [.c zS] 4,
 jC 2 5] .ret))))
theorem fn56 : Bf Tryz.prog 56 = some (33, [.t 4, .t 5], ir56) := by kernel_rfl
def ir57 : C := (jS [iU .box 0 2, iU .box 1 3, iJ .mv [.c zN] 4] (jS [iJ .mv [.c (.pv (.i .u8 0))] 5, iJ .mv [.c (.pv (.i .u8 0))] 6] (jS [iJ .mv [.c zN] 7]
 (.seq (jS [iU L8 2 10, jC 0 11] (.block 0 (.loop (jS [jK B3 11 8 12] (.seq (.ite (.t 12) .skip (.exit 0)) (.seq (.block 1 (jS [iM 13 11,
 iD (.ixA 8 1 false) 10 11 14, iM 8 13, iM 9 14] (.block 2 (jS [iM 16 9, iM 17 8, iD (.iaA 8 1) 3 17 18, iU L1 18 19, iD B4 16 19 20, iM 15 20] (.ite (.t 15) (jS [iM 21 5, iM 22 8,
 iJ (.bin .shl) [.c (.pv (.i .u8 1)), .t 22] 23, iD (.bin .or) 21 23 24, iM 5 24] (.ops [iM 25 7, iM 26 9, iM 27 8, iD (.iaA 8 1) 3 27 28, iU L1 28 29, iD B5 26 29 30, iU (.call 95) 30 31,
 iD (.app 1 1) 25 31 32, iM 7 32])) (jS [iM 34 9, iM 35 8, iD (.iaA 8 1) 3 35 36, iU L1 36 37, iD B3 34 37 38, iM 33 38] (jI 33 (jS [iM 39 6, iM 40 8,
 iJ (.bin .shl) [.c (.pv (.i .u8 1)), .t 40] 41, iD (.bin .or) 39 41 42, iM 6 42] (.ops [iM 43 7, iM 44 8, iD (.iaA 8 1) 3 44 45, iU L1 45 46, iM 47 9, iD B5 46 47 48, iU (.call 95) 48 49,
 iD (.app 1 1) 43 49 50, iM 7 50]))))))))) (.ops [jK B2 11 1 51, iM 11 51]))))))) (jS [iM 52 5, iM 53 6, iD (.bsl 1) 52 53 54, iM 55 7, iD (.app 1 1) 54 55 56, iM 4 56]
 .ret)))))
theorem fn57 : Bf Tryz.prog 57 = some (57, [.t 4], ir57) := by kernel_rfl
def ir58 : C := (jS [iJ .mv [.c zN] 2] (jS [iJ .mv [.c zN] 3] (.seq (jS [iM 8 0, iU .len 8 9, jC 0 10] (.block 0 (.loop (jS [iD B3 10 9 11]
 (.seq (.ite (.t 11) .skip (.exit 0)) (.seq (.block 1 (jS [iD (.iaS 2) 8 10 12, iU L2 12 13, iJ (.new (.agg [zI, zU])) [] 5, jW 2 5 13] (.ops [iM 14 3, iU L2 5 15,
 iU (.call 96) 15 16, iU (.bsl 1) 16 17, iD (.app 1 24) 14 17 18, iM 3 18]))) (.ops [jK B2 10 1 19, iM 10 19]))))))) (jS [iM 21 3, iU (.call 59) 21 22, iM 20 22, iU (.ext 0) 20 23,
 iU (.ext 1) 20 24, iM 6 23, iM 7 24] (jS [iM 25 6, iM 2 25] .ret)))))
theorem fn58 : Bf Tryz.prog 58 = some (26, [.t 2], ir58) := by kernel_rfl
def ir59 : C := (jS [iJ .mv [.c zN] 2, jC 0 3] (jS [iJ (.bsl 1) [] 8, iM 4 8] (.seq (jS [iM 9 0, iU .len 9 10, jC 0 11]
 (.block 0 (.loop (jS [iD B3 11 10 12] (.seq (.ite (.t 12) .skip (.exit 0)) (.seq (.block 1 (jS [iD (.iaS 1) 9 11 13, iU L1 13 14, iM 6 14] (.seq (jS [iM 15 6, iU .len 15 16,
 iM 7 16] (.block 2 (jS [iM 26 7, jK B4 26 65535 27, iM 25 27] (.ite (.t 25) (jS [iJ .mv [.c zN] 2, jC 4 3] .ret) (jS [iM 29 7, jK B3 29 255 30,
 iM 28 30] (.ite (.t 28) (.ops [iM 31 4, iM 32 7, iU (.cvI .u8) 32 33, iU (.bsl 1) 33 34, iD (.app 1 1) 31 34 35, iM 4 35]) (.ops [iM 17 4, iM 18 7, iJ (.bin .shr) [.t 18, .c (.pv (.i .u64 8))] 19,
 iU (.cvI .u8) 19 20, iM 21 7, iU (.cvI .u8) 21 22, iJ (.bsl 1) [.c (.pv (.i .u8 255)), .t 20, .t 22] 23, iD (.app 1 1) 17 23 24, iM 4 24]))))))) (.ops [iM 36 4, iM 37 6, iD (.app 1 1) 36 37 38,
 iM 4 38])))) (.ops [jK B2 11 1 39, iM 11 39]))))))) (jS [iM 40 4, iM 2 40, jC 0 3] .ret))))
theorem fn59 : Bf Tryz.prog 59 = some (41, [.t 2, .t 3], ir59) := by kernel_rfl
def ir60 : C := (jS [iU .box 1 3, iJ (.new zN) [] 4, iJ (.new zI) [] 5] (jS [iJ (.new zN) [] 6] (.seq (jS [iM 9 0, iU (.call 97) 9 10]
 (.block 0 (.rng (.t 10) [11, 12] (jS [iM 7 11] (.ops [iM 8 12])) (.block 1 (.seq (jS [iM 13 8, jK B6 13 0 14] (jI 14 (jS [iM 15 8, iO S1 [.t 4, .c zN],
 jW 1 5 15] .ret))) (.seq (jS [iU L1 6 16, iU .len 16 17, iU L1 3 18, iD B8 17 18 19] (jI 19 (jS [iO S1 [.t 4, .c zN], iO S1 [.t 5, cI 4]] .ret)))
 (.ops [iU L1 6 20, iM 21 7, iU (.bsl 1) 21 22, iD (.app 1 24) 20 22 23, jW 1 6 23]))))))) (jS [iU L1 6 24, jW 1 4 24, iO S1 [.t 5, cI 0]] .ret))))
theorem fn60 : Bf Tryz.prog 60 = some (25, [.c 4 1 false, .c 5 1 false], ir60) := by kernel_rfl
def ir61 : C := (jS [iM 2 0, jK B6 2 0 3] (jI 3 .bad))
theorem fn61 : Bf Tryz.prog 61 = some (5, [], ir61) := by kernel_rfl
def ir62 : C := (jS [iU .box 1 3, iJ (.new zV) [] 4, jC 0 5] (jS [iM 13 0, iU (.call 98) 13 14, iM 12 14, iU (.ext 0) 12 15, iU (.ext 1) 12 16, iJ (.new zW) [] 6,
 jW 8 6 15, iM 7 16] (.seq (jS [iM 17 7, jK B6 17 0 18] (jI 18 (jS [iJ (.bldV 8 1) [.c zU, .c zU, .c zU, .c zU, .c zU, .c zU, .c zU, .c zU] 19,
 iM 20 7, jW 8 4 19, iM 5 20] .ret))) (jS [iJ (.new zV) [] 8] (.seq (jS [iU L8 6 21, jC 0 22] (.block 0 (.loop (jS [jK B3 22 8 23]
 (.seq (.ite (.t 23) .skip (.exit 0)) (.seq (.block 1 (jS [iM 24 22, iD (.ixA 8 1 false) 21 22 25, iM 9 24, iM 10 25] (jS [iM 26 9, iD (.iaA 8 1) 3 26 27, iU L1 27 28,
 iU (.cvI .i64) 28 29, iM 30 10, iD B2 29 30 31, iM 11 31] (.seq (jS [iM 32 11, jK B3 32 0 33, iM 34 33, jB .mv 11 35 34, iG B4 [.t 35, cI 4294967295] 36 34 false,
 jP 34 36 37] (jI 37 (jS [iJ (.bldV 8 1) [.c zU, .c zU, .c zU, .c zU, .c zU, .c zU, .c zU, .c zU] 38, jW 8 4 38, jC 7 5] .ret)))
 (.ops [iM 39 9, iM 40 11, iU (.cvI .u32) 40 41, iD (.iaA 8 1) 8 39 42, jW 1 42 41]))))) (.ops [jK B2 22 1 43, iM 22 43]))))))) (jS [iU L8 8 44, jW 8 4 44,
 jC 0 5] .ret))))))
theorem fn62 : Bf Tryz.prog 62 = some (45, [.c 4 8 true, .t 5], ir62) := by kernel_rfl
def ir63 : C := (jS [iJ .mv [.c zN] 4, jC 0 5] (jS [iM 12 0, iM 13 1, iD (.call 60) 12 13 14, iM 11 14, iU (.ext 0) 11 15, iU (.ext 1) 11 16, iM 6 15, iM 7 16]
 (.seq (jS [iM 17 7, jK B6 17 0 18] (jI 18 (jS [iM 19 7, iJ .mv [.c zN] 4, iM 5 19] .ret))) (jS [iJ .mv [.c zN] 8] (.seq (jS [iM 20 6,
 iU .len 20 21, jC 0 22] (.block 0 (.loop (jS [iD B3 22 21 23] (.seq (.ite (.t 23) .skip (.exit 0)) (.seq (.block 1 (jS [iD (.iaS 1) 20 22 24, iU L1 24 25, iM 10 25]
 (.ops [iM 26 8, iM 27 10, iU (.call 99) 27 28, iU (.bsl 2) 28 29, iD (.app 2 16) 26 29 30, iM 8 30]))) (.ops [jK B2 22 1 31, iM 22 31]))))))) (.seq (jS [iM 32 8, iU (.call 58) 32 33,
 iM 34 0, iD (.call 100) 33 34 35, iU U1 35 36] (jI 36 (jS [iJ .mv [.c zN] 4, jC 7 5] .ret))) (jS [iM 37 8, iM 4 37, jC 0 5] .ret)))))))
theorem fn63 : Bf Tryz.prog 63 = some (38, [.t 4, .t 5], ir63) := by kernel_rfl
def ir64 : C := (jS [iJ .mv [.c zF] 4] (.seq (jS [jC 1 5] (.block 0 (.loop (.seq (jS [iM 6 5, iM 7 0, iU .len 7 8, iD B3 6 8 9] (.ite (.t 9) .skip (.exit 0)))
 (.seq (.block 1 (.seq (.any [18, 24, 25] [(iM 12 1, 0, [18, 24, 25]), (iM 13 0, 0, [18, 24, 25]), (iM 14 5, 0, [18, 24, 25]), (jK B5 14 1 15, 0, [18, 24, 25]),
 (iD (.iaS 11) 13 15 16, 1, [18, 24, 25]), (iU (.ld 11 true) 16 17, 1, [18, 24, 25]), (iD .callv 12 17 18, 1, [18, 24, 25]), (iM 19 1, 0, [18, 24, 25]), (iM 20 0, 0, [18, 24, 25]),
 (iM 21 5, 0, [18, 24, 25]), (iD (.iaS 11) 20 21 22, 1, [18, 24, 25]), (iU (.ld 11 true) 22 23, 1, [18, 24, 25]), (iD .callv 19 23 24, 1, [24, 25]), (iD (.call 85) 18 24 25, 3, [25]),
 (iU U1 25 26, 0, [18, 24])]) (jI 26 (jS [iJ .mv [.c zF] 4] .ret)))) (.ops [iM 10 5, jK B2 10 1 11, iM 5 11])))))) (jS [iJ .mv [.c zT] 4] .ret)))
theorem fn64 : Bf Tryz.prog 64 = some (27, [.t 4], ir64) := by kernel_rfl
def ir65 : C := (jS [iU .box 0 1, iJ (.new (.agg [zI, zU])) [] 2] (jS [jF 0 1 3, iU L2 3 4, jW 2 2 4] .ret))
theorem fn65 : Bf Tryz.prog 65 = some (5, [.c 2 2 true], ir65) := by kernel_rfl
def ir66 : C := (jS [iJ .mv [.c zF] 4] (.seq (jS [jC 1 5] (.block 0 (.loop (.seq (jS [iM 6 5, iM 7 0, iU .len 7 8, iD B3 6 8 9] (.ite (.t 9) .skip (.exit 0)))
 (.seq (.block 1 (.seq (.any [18, 24, 25] [(iM 12 1, 0, [18, 24, 25]), (iM 13 0, 0, [18, 24, 25]), (iM 14 5, 0, [18, 24, 25]), (jK B5 14 1 15, 0, [18, 24, 25]),
 (iD (.iaS 15) 13 15 16, 1, [18, 24, 25]), (iU (.ld 15 true) 16 17, 1, [18, 24, 25]), (iD .callv 12 17 18, 1, [18, 24, 25]), (iM 19 1, 0, [18, 24, 25]), (iM 20 0, 0, [18, 24, 25]),
 (iM 21 5, 0, [18, 24, 25]), (iD (.iaS 15) 20 21 22, 1, [18, 24, 25]), (iU (.ld 15 true) 22 23, 1, [18, 24, 25]), (iD .callv 19 23 24, 1, [24, 25]), (iD (.call 85) 18 24 25, 3, [25]),
 (iU U1 25 26, 0, [18, 24])]) (jI 26 (jS [iJ .mv [.c zF] 4] .ret)))) (.ops [iM 10 5, jK B2 10 1 11, iM 5 11])))))) (jS [iJ .mv [.c zT] 4] .ret)))
theorem fn66 : Bf Tryz.prog 66 = some (27, [.t 4], ir66) := by kernel_rfl
def ir67 : C := (jS [iU .box 0 1, iJ (.new (.agg [zI, zU])) [] 2] (jS [jF 0 1 3, iU L2 3 4, jW 2 2 4] .ret))
theorem fn67 : Bf Tryz.prog 67 = some (5, [.c 2 2 true], ir67) := by kernel_rfl
def ir68 : C := (jS [iJ .mv [.c zF] 4] (.seq (jS [jC 1 5] (.block 0 (.loop (.seq (jS [iM 6 5, iM 7 0, iU .len 7 8, iD B3 6 8 9] (.ite (.t 9) .skip (.exit 0)))
 (.seq (.block 1 (.seq (.any [18, 24, 25] [(iM 12 1, 0, [18, 24, 25]), (iM 13 0, 0, [18, 24, 25]), (iM 14 5, 0, [18, 24, 25]), (jK B5 14 1 15, 0, [18, 24, 25]),
 (iD (.iaS 15) 13 15 16, 1, [18, 24, 25]), (iU (.ld 15 true) 16 17, 1, [18, 24, 25]), (iD .callv 12 17 18, 1, [18, 24, 25]), (iM 19 1, 0, [18, 24, 25]), (iM 20 0, 0, [18, 24, 25]),
 (iM 21 5, 0, [18, 24, 25]), (iD (.iaS 15) 20 21 22, 1, [18, 24, 25]), (iU (.ld 15 true) 22 23, 1, [18, 24, 25]), (iD .callv 19 23 24, 1, [24, 25]), (iD (.call 85) 18 24 25, 3, [25]),
 (iU U1 25 26, 0, [18, 24])]) (jI 26 (jS [iJ .mv [.c zF] 4] .ret)))) (.ops [iM 10 5, jK B2 10 1 11, iM 5 11])))))) (jS [iJ .mv [.c zT] 4] .ret)))
theorem fn68 : Bf Tryz.prog 68 = some (27, [.t 4], ir68) := by kernel_rfl
def ir69 : C := (jS [iU .box 0 1, iJ (.new (.agg [zI, zU])) [] 2] (jS [jF 0 1 3, iU L2 3 4, jW 2 2 4] .ret))
theorem fn69 : Bf Tryz.prog 69 = some (5, [.c 2 2 true], ir69) := by kernel_rfl
def ir76 : C := (jS [iJ .mv [.c zN] 2] (.seq (jS [iM 3 0, iU (.eqn false) 3 4] (jI 4 (jS [iJ .mv [.c zN] 2] .ret))) (jS [iJ (.bsl 15) [] 5, iM 6 0,
 iD (.app 15 96) 5 6 7, iM 2 7] .ret)))
theorem fn76 : Bf Tryz.prog 76 = some (8, [.t 2], ir76) := by kernel_rfl
def ir85 : C := (jS [iU .box 0 2, iU .box 1 3, iJ .mv [.c zF] 4] (.seq (jS [jF 1 2 5, iU L1 5 6, jF 1 3 7, iU L1 7 8, iD B6 6 8 9]
 (jI 9 (jS [jF 1 2 10, iU L1 10 11, jF 1 3 12, iU L1 12 13, iD B3 11 13 14, iM 4 14] .ret))) (jS [jF 0 2 15, iU L1 15 16, jF 0 3 17, iU L1 17 18,
 iD B3 16 18 19, iM 4 19] .ret)))
theorem fn85 : Bf Tryz.prog 85 = some (20, [.t 4], ir85) := by kernel_rfl
def ir86 : C := (jS [iU .box 0 1, iJ .mv [.c zF] 2] (jS [jF 10 1 3, iU L1 3 4, jK B1 4 3 5, iM 6 5, jN 10 1 7 6, jB L1 7 8 6,
 iG B1 [.t 8, cI 4] 9 6 false, jP 6 9 10, iM 11 10, jN 10 1 12 11, jB L1 12 13 11, iG B1 [.t 13, cI 5] 14 11 false, jP 11 14 15, iM 2 15]
 .ret))
theorem fn86 : Bf Tryz.prog 86 = some (16, [.t 2], ir86) := by kernel_rfl
def ir87 : C := (jS [iU .box 1 3, iJ .mv [.c zS] 4] (jS [iM 13 0, iU L2 3 14, iD (.call 115) 13 14 15, iM 12 15, iU (.ext 0) 12 16, iU (.ext 1) 12 17,
 jE 5, jW 21 5 16, iM 6 17] (.seq (jS [iM 18 6, iU U1 18 19]
 (jI 19 (jS [iJ .mv [.c zS] 4] .ret))) (.seq (jS [jF 10 5 20, iU L1 20 21, jK B1 21 5 22] (jI 22 (jS [jF 19 5 23, iU L1 23 24,
 iM 4 24] .ret))) (jS [iJ .mv [.c zS] 7] (.seq (jS [jF 17 5 25, iU L1 25 26, iU .len 26 27, jK B4 27 0 28] (jI 28 (.ops [iM 29 0, jF 17 5 30,
 iU L1 30 31, jK (.iaS 2) 31 0 32, iU L2 32 33, iD (.call 87) 29 33 34, iM 7 34]))) (.seq (jS [jF 10 5 35, iU L1 35 36, jK B1 36 4 37]
 (jI 37 (jS [iM 39 7, jF 18 5 40, iU L1 40 41, iD (.call 116) 39 41 42, iM 38 42, iU (.ext 0) 38 43, iU (.ext 1) 38 44, iM 8 43, iM 9 44] (jS [iM 45 8, iM 4 45] .ret)))) (jS [iM 47 7, jF 18 5 48, iU L1 48 49, jF 19 5 50, iU L1 50 51, iJ (.call 117) [.t 47, .t 49, .t 51] 52, iM 46 52, iU (.ext 0) 46 53, iU (.ext 1) 46 54, iM 10 53,
 iM 11 54] (jS [iM 55 10, iM 4 55] .ret)))))))))
theorem fn87 : Bf Tryz.prog 87 = some (56, [.t 4], ir87) := by kernel_rfl
def ir88 : C := (jS [iU .box 2 5, iJ .mv [.c zN] 6, jC 0 7] (.seq (jS [jC 0 8] (.block 0 (.loop (.seq (jS [iM 16 8, iM 17 1, iU .len 17 18, iD B3 16 18 19]
 (.ite (.t 19) .skip (.exit 0))) (.seq (.block 1 (jS [iM 23 0, iM 24 1, iM 25 8, iD (.iaS 2) 24 25 26, iU L2 26 27, iD (.call 56) 23 27 28, iM 22 28, iU (.ext 0) 22 29, iU (.ext 1) 22 30,
 iM 9 29, iM 10 30] (jS [iM 31 10, jK B6 31 0 32, iM 33 32, jB .mv 1 34 33, jB .mv 8 35 33, iG (.iaS 2) [.t 34, .t 35] 36 33 false, jN 0 36 37 33,
 jB L1 37 38 33, iG B1 [.t 38, cI 0] 39 33 false, jB .mv 39 40 33, jA .mv 1 41 40, jA .mv 8 42 40, iG (.iaS 2) [.t 41, .t 42] 43 40 true, jL 1 43 44 40,
 jA L1 44 45 40, iG B1 [.t 45, .c zU] 46 40 true, iG .pick [.t 40, .t 46, .c zF] 47 33 false, jB .mv 47 48 33, jA .mv 0 49 48, jA .mv 1 50 48, jA .mv 8 51 48,
 iG (.iaS 2) [.t 50, .t 51] 52 48 true, jA L2 52 53 48, iG (.call 118) [.t 49, .t 53] 54 48 true, jA U1 54 55 48, iG .pick [.t 48, .t 55, .c zF] 56 33 false,
 jP 33 56 57] (jI 57 (jS [iJ .mv [.c zN] 6, jC 2 7] .ret))))) (.ops [iM 20 8, jK B2 20 1 21, iM 8 21])))))) (.seq (jS [iM 58 0,
 jF 0 5 59, iU L2 59 60, iD (.call 118) 58 60 61] (jI 61 (jS [iJ .mv [.c zN] 6, jC 11 7] .ret))) (jS [iJ .mv [.c zN] 11] (jS [iJ .mv [.c zF] 12]
 (.seq (jS [jC 0 13] (.block 2 (.loop (.seq (jS [iM 62 13, iM 63 0, iU .len 63 64, iD B3 62 64 65] (.ite (.t 65) .skip (.exit 2)))
 (.seq (.block 3 (.seq (.seq (.any [78] [(iM 68 12, 0, [78]), (iU U1 68 69, 0, [78]), (iM 70 69, 0, [78]), (jL 0 5 71 70, 0, [78]), (jA L2 71 72 70, 1, [78]),
 (jA .mv 0 73 70, 0, [78]), (jA .mv 13 74 70, 0, [78]), (iG (.iaS 11) [.t 73, .t 74] 75 70 true, 1, [78]), (jL 0 75 76 70, 0, [78]), (jA L2 76 77 70, 1, [78]),
 (iG (.call 17) [.t 72, .t 77] 78 70 true, 3, [78]), (jQ 70 78 79, 0, [])]) (jI 79 (jS [iM 80 11, iU (.ld 11 true) 5 81, iU (.bsl 11) 81 82,
 iD (.app 11 64) 80 82 83, iM 11 83] (.ops [iJ .mv [.c zT] 12])))) (jS [iM 84 0, iM 85 13, iD (.iaS 11) 84 85 86, iU (.ld 11 true) 86 87, iJ (.new (.agg [zI, zU, zS, zV])) [] 14,
 jW 11 14 87] (.seq (jS [jC 0 15] (.block 4 (.loop (.seq (jS [iM 88 15, iM 89 1, iU .len 89 90, iD B3 88 90 91] (.ite (.t 91) .skip (.exit 4)))
 (.seq (.block 5 (.seq (.any [] [(iM 94 1, 0, []), (iM 95 15, 0, []), (iD (.iaS 2) 94 95 96, 1, []), (iU L2 96 97, 1, []), (jF 0 14 98, 0, []), (iU L2 98 99, 1, []),
 (iD (.eqv false [.int .i64, .int .u32]) 97 99 100, 0, [])]) (jI 100 (.ops [jF 3 14 101, iU L8 101 102, jF 0 5 103, iU L2 103 104, iD (.call 19) 102 104 105, jF 3 14 106,
 jW 8 106 105])))) (.ops [iM 92 15, jK B2 92 1 93, iM 15 93])))))) (.ops [iM 107 11, iU (.ld 11 true) 14 108, iU (.bsl 11) 108 109, iD (.app 11 64) 107 109 110,
 iM 11 110]))))) (.ops [iM 66 13, jK B2 66 1 67, iM 13 67])))))) (.seq (jS [iM 111 12, iU U1 111 112] (jI 112 (.ops [iM 113 11, iU (.ld 11 true) 5 114, iU (.bsl 11) 114 115,
 iD (.app 11 64) 113 115 116, iM 11 116]))) (jS [iM 117 11, iM 6 117, jC 0 7] .ret))))))))
theorem fn88 : Bf Tryz.prog 88 = some (118, [.t 6, .t 7], ir88) := by kernel_rfl
def ir89 : C := (jS [iU .box 0 1, iJ .mv [.c zF] 2] (jS [jF 0 1 3, iU L1 3 4, jK B1 4 0 5, iM 6 5, jL 1 1 7 6, jA L1 7 8 6,
 iG B1 [.t 8, .c zU] 9 6 true, jQ 6 9 10, iM 2 10] .ret))
theorem fn89 : Bf Tryz.prog 89 = some (11, [.t 2], ir89) := by kernel_rfl
def ir90 : C := (jS [iU .box 1 3, iJ .mv [.c zF] 4] (.seq (jS [jC 0 5] (.block 0 (.loop (.seq (jS [iM 6 5, iM 7 0, iU .len 7 8, iD B3 6 8 9] (.ite (.t 9) .skip
 (.exit 0))) (.seq (.block 1 (.seq (.any [17, 32] [(iU L8 3 12, 1, [17, 32]), (iM 13 0, 0, [17, 32]), (iM 14 5, 0, [17, 32]), (iD (.iaS 2) 13 14 15, 1, [17, 32]), (iU L2 15 16, 1, [17, 32]),
 (iD (.call 52) 12 16 17, 3, [17, 32]), (iU U1 17 18, 0, [32]), (iM 19 18, 0, [32]), (jB .mv 5 20 19, 0, [17, 32]), (iG B4 [.t 20, cI 0] 21 19 false, 0, [17, 32]),
 (jB .mv 21 22 19, 0, [17, 32]), (jA .mv 0 23 22, 0, [17, 32]), (jA .mv 5 24 22, 0, [17, 32]), (iG B5 [.t 24, cI 1] 25 22 true, 0, [17, 32]),
 (iG (.iaS 2) [.t 23, .t 25] 26 22 true, 1, [17, 32]), (jA L2 26 27 22, 1, [17, 32]), (jA .mv 0 28 22, 0, [17, 32]), (jA .mv 5 29 22, 0, [17, 32]),
 (iG (.iaS 2) [.t 28, .t 29] 30 22 true, 1, [17, 32]), (jA L2 30 31 22, 1, [17, 32]), (iG (.call 17) [.t 27, .t 31] 32 22 true, 3, [17, 32]), (jA U1 32 33 22, 0, [17]),
 (iG .pick [.t 22, .t 33, .c zF] 34 19 false, 0, [17, 32]), (jP 19 34 35, 0, [17, 32])]) (jI 35 (jS [iJ .mv [.c zF] 4] .ret)))) (.ops [iM 10 5,
 jK B2 10 1 11, iM 5 11])))))) (jS [iJ .mv [.c zT] 4] .ret)))
theorem fn90 : Bf Tryz.prog 90 = some (36, [.t 4], ir90) := by kernel_rfl
def ir91 : C := (jS [iJ .mv [.c zF] 2] (.seq (jS [iM 8 0, iJ B1 [.t 8, .c zS] 9, iM 10 9, jB .mv 0 11 10, jB .lenS 11 12 10, iG B4 [.t 12, cI 12] 13 10 false,
 jP 10 13 14, iM 15 14, jB .mv 0 16 15, iG B1 [.t 16, .c (.pv (.s [46]))] 17 15 false, jP 15 17 18, iM 19 18, jB .mv 0 20 19,
 iG B1 [.t 20, .c (.pv (.s [46, 46]))] 21 19 false, jP 19 21 22] (jI 22 (jS [iJ .mv [.c zF] 2] .ret))) (.seq (jS [jC 0 3]
 (.block 0 (.loop (.seq (jS [iM 23 3, iM 24 0, iU .lenS 24 25, iD B3 23 25 26] (.ite (.t 26) .skip (.exit 0))) (.seq (.block 1 (jS [iM 29 0, iM 30 3, iD .ixS 29 30 31, iM 4 31]
 (jS [iM 32 4, iJ B8 [.t 32, .c (.pv (.i .u8 97))] 33, iM 34 33, jA .mv 4 35 34, iG B7 [.t 35, .c (.pv (.i .u8 122))] 36 34 true, jQ 34 36 37, iM 38 4,
 iJ B8 [.t 38, .c (.pv (.i .u8 65))] 39, iM 40 39, jA .mv 4 41 40, iG B7 [.t 41, .c (.pv (.i .u8 90))] 42 40 true, jQ 40 42 43, iM 44 4,
 iJ B8 [.t 44, .c (.pv (.i .u8 48))] 45, iM 46 45, jA .mv 4 47 46, iG B7 [.t 47, .c (.pv (.i .u8 57))] 48 46 true, jQ 46 48 49, iM 5 37, iM 6 43, iM 7 49]
 (jS [iM 50 5, iU U1 50 51, iM 52 51, jA .mv 6 53 52, jA U1 53 54 52, jQ 52 54 55, iM 56 55, jA .mv 7 57 56, jA U1 57 58 56,
 jQ 56 58 59, iM 60 59, jA .mv 4 61 60, iG B6 [.t 61, .c (.pv (.i .u8 46))] 62 60 true, jQ 60 62 63, iM 64 63, jA .mv 4 65 64,
 iG B6 [.t 65, .c (.pv (.i .u8 95))] 66 64 true, jQ 64 66 67, iM 68 67, jA .mv 4 69 68, iG B6 [.t 69, .c (.pv (.i .u8 45))] 70 68 true, jQ 68 70 71]
 (jI 71 (jS [iJ .mv [.c zF] 2] .ret)))))) (.ops [iM 27 3, jK B2 27 1 28, iM 3 28])))))) (jS [iJ .mv [.c zT] 2] .ret))))
theorem fn91 : Bf Tryz.prog 91 = some (72, [.t 2], ir91) := by kernel_rfl
def ir92 : C := (jS [iU .box 0 8, iJ .mv [.c zF] 16] (jS [iM 17 1, iM 18 17, jN 11 8 19 18, jB L2 19 20 18, jB (.call 89) 20 21 18,
 jP 18 21 22, iM 23 22, jA .mv 2 24 23, jA .mv 24 25 23, jN 13 8 26 25, jB L2 26 27 25, jB (.call 89) 27 28 25, jB .mv 28 29 25,
 jL 15 8 30 29, jA L1 30 31 29, iG B1 [.t 31, .c zS] 32 29 true, iG .pick [.t 29, .t 32, .c zF] 33 25 false, iG .pick [.t 25, .c zT, .t 33] 34 23 true,
 jQ 23 34 35, iM 36 35, jA .mv 3 37 36, jA .mv 37 38 36, jN 16 8 39 38, jB L1 39 40 38, jB .len 40 41 38, iG B1 [.t 41, cI 0] 42 38 false,
 iG .pick [.t 38, .c zT, .t 42] 43 36 true, jQ 36 43 44, iM 45 44, jA .mv 4 46 45, jA .mv 46 47 45, jN 17 8 48 47, jB L1 48 49 47,
 jB .len 49 50 47, iG B1 [.t 50, cI 0] 51 47 false, iG .pick [.t 47, .c zT, .t 51] 52 45 true, jQ 45 52 53, iM 54 53, jA .mv 5 55 54, jA .mv 55 56 54,
 jN 18 8 57 56, jB L1 57 58 56, iG B1 [.t 58, cI 0] 59 56 false, iG .pick [.t 56, .c zT, .t 59] 60 54 true, jQ 54 60 61, iM 62 61, jA .mv 6 63 62,
 jA .mv 63 64 62, jN 19 8 65 64, jB L1 65 66 64, iG B1 [.t 66, .c zS] 67 64 false, iG .pick [.t 64, .c zT, .t 67] 68 62 true, jQ 62 68 69, iM 70 69,
 jA .mv 7 71 70, jA .mv 71 72 70, jN 20 8 73 72, jB L1 73 74 72, iG B1 [.t 74, cI 0] 75 72 false, iG .pick [.t 72, .c zT, .t 75] 76 70 true,
 jQ 70 76 77, iM 16 77] .ret))
theorem fn92 : Bf Tryz.prog 92 = some (78, [.t 16], ir92) := by kernel_rfl
def ir93 : C := (jS [iU .box 0 2, iU .box 1 3, jC 0 4] (jS [iJ .mv [.c zF] 5, iJ .mv [.c zF] 6] (.seq (jS [jC 0 7]
 (.block 0 (.loop (.seq (jS [iM 8 7, jK B3 8 8 9] (.ite (.t 9) .skip (.exit 0))) (.seq (.block 1 (.seq (.any [] [(iM 12 5, 0, []), (iM 13 12, 0, []), (jB .mv 7 14 13, 0, []),
 (iG (.iaA 8 1) [.t 2, .t 14] 15 13 false, 0, []), (jB L1 15 16 13, 1, []), (jB .mv 7 17 13, 0, []), (iG (.iaA 8 1) [.t 3, .t 17] 18 13 false, 0, []), (jB L1 18 19 13, 1, []),
 (iG B3 [.t 16, .t 19] 20 13 false, 0, []), (jP 13 20 21, 0, []), (iM 5 21, 0, [])]) (.any [] [(iM 22 6, 0, []), (iM 23 22, 0, []), (jB .mv 7 24 23, 0, []),
 (iG (.iaA 8 1) [.t 2, .t 24] 25 23 false, 0, []), (jB L1 25 26 23, 1, []), (jB .mv 7 27 23, 0, []), (iG (.iaA 8 1) [.t 3, .t 27] 28 23 false, 0, []), (jB L1 28 29 23, 1, []),
 (iG B4 [.t 26, .t 29] 30 23 false, 0, []), (jP 23 30 31, 0, []), (iM 6 31, 0, [])]))) (.ops [iM 10 7, jK B2 10 1 11, iM 7 11]))))))
 (.seq (.block 2 (jS [iM 33 5, iM 34 33, jA .mv 6 35 34, jQ 34 35 36, iM 32 36] (.ite (.t 32) (jS [jC 2 4] .ret) (jS [iM 38 5, iM 37 38]
 (.ite (.t 37) (jS [iJ .mv [.c (.pv (.i .i64 (-1)))] 4] .ret) (jS [iM 40 6, iM 39 40] (jI 39 (jS [jC 1 4] .ret)))))))) (jS [jC 0 4]
 .ret)))))
theorem fn93 : Bf Tryz.prog 93 = some (41, [.t 4], ir93) := by kernel_rfl
def ir94 : C := (jS [iU .box 0 1, iJ .mv [.c zF] 2] (jS [jF 0 1 3, iU L1 3 4, jK B1 4 0 5, iM 6 5, jL 1 1 7 6, jA L1 7 8 6,
 iG B1 [.t 8, .c zU] 9 6 true, jQ 6 9 10, iM 2 10] .ret))
theorem fn94 : Bf Tryz.prog 94 = some (11, [.t 2], ir94) := by kernel_rfl
def ir95 : C := (jS [iJ .mv [.c zN] 2] (jS [iM 4 0, iU (.cvI .u64) 4 5, iU (.call 119) 5 6, iM 3 6] (jS [iM 7 3, iU .len 7 8, iU (.cvI .u8) 8 9, iU (.bsl 1) 9 10, iM 11 3,
 iD (.app 1 1) 10 11 12, iM 2 12] .ret)))
theorem fn95 : Bf Tryz.prog 95 = some (13, [.t 2], ir95) := by kernel_rfl
def ir96 : C := (jS [iU .box 0 1, iJ .mv [.c zN] 2] (.seq (jS [iU L2 1 3, iJ (.bld [1, 1]) [cI 0, .c zU] 4, iD (.eqv false [.int .i64, .int .u32]) 3 4 5]
 (jI 5 (jS [iJ .mv [.c zN] 2] .ret))) (.seq (.any [9, 13, 14] [(jF 0 1 6, 0, [9, 13, 14]), (iU L1 6 7, 1, [9, 13, 14]), (iU (.cvI .u8) 7 8, 0, [9, 13, 14]),
 (iU (.bsl 1) 8 9, 1, [9, 13, 14]), (jF 1 1 10, 0, [9, 13, 14]), (iU L1 10 11, 1, [9, 13, 14]), (iU (.cvI .u64) 11 12, 0, [9, 13, 14]), (iU (.call 119) 12 13, 1, [9, 13, 14]),
 (iD (.app 1 1) 9 13 14, 2, [14]), (iM 2 14, 0, [])]) .ret)))
theorem fn96 : Bf Tryz.prog 96 = some (15, [.t 2], ir96) := by kernel_rfl
def ir97 : C := (jS [iJ .mv [.c (.pv (.v .nilFunc))] 2] (jS [iJ (.bsl 1) [] 4, iM 5 0, iD (.app 1 1) 4 5 6, iJ (.new zN) [] 3, jW 1 3 6]
 (jS [iU (.mkf (.func 120)) 3 7, iM 2 7] .ret)))
theorem fn97 : Bf Tryz.prog 97 = some (8, [.t 2], ir97) := by kernel_rfl
def ir98 : C := (jS [iJ (.new zW) [] 2, jC 0 3] (jS [iJ (.new zW) [] 4] (.seq (jS [iM 12 0, iU .len 12 13, jK B3 13 2 14]
 (jI 14 (jS [iJ (.bldV 8 1) [cI 0, cI 0, cI 0, cI 0, cI 0, cI 0, cI 0, cI 0] 15, jW 8 2 15, jC 8 3] .ret))) (.seq (.anyF [] [(iM 16 0, 0, []),
 (jK (.iaS 1) 16 0 17, 1, []), (iU L1 17 18, 1, []), (iM 19 0, 0, []), (jK (.iaS 1) 19 1 20, 1, []), (iU L1 20 21, 1, []), (iM 22 0, 0, []),
 (jK (.slc 1 true false false) 22 2 23, 1, []), (iM 5 18, 0, []), (iM 6 21, 0, []), (iM 7 23, 0, [])]) (.seq (jS [iM 24 5, iM 25 6, iD (.bin .and) 24 25 26,
 iJ B6 [.t 26, .c (.pv (.i .u8 0))] 27] (jI 27 (jS [iJ (.bldV 8 1) [cI 0, cI 0, cI 0, cI 0, cI 0, cI 0, cI 0, cI 0] 28, jW 8 2 28, jC 7 3] .ret)))
 (.seq .skip (.seq (jS [jC 0 29] (.block 0 (.loop (jS [jK B3 29 8 30] (.seq (.ite (.t 30) .skip (.exit 0)) (.seq (.block 1 (jS [iM 31 29, iM 8 31]
 (jS [jC 1 9] (.seq (.block 2 (jS [iM 33 6, iM 34 8, iD (.bin .shr) 33 34 35, iJ (.bin .and) [.t 35, .c (.pv (.i .u8 1))] 36, iJ B1 [.t 36, .c (.pv (.i .u8 1))] 37,
 iM 32 37] (.ite (.t 32) (.ops [iJ .mv [.c (.pv (.i .i64 (-1)))] 9]) (jS [iM 39 5, iM 40 8, iD (.bin .shr) 39 40 41, iJ (.bin .and) [.t 41, .c (.pv (.i .u8 1))] 42,
 iJ B1 [.t 42, .c (.pv (.i .u8 0))] 43, iM 38 43] (jI 38 (.exit 1)))))) (.seq (jS [iM 44 7, iU .len 44 45, jK B1 45 0 46, iM 47 46, jB .mv 7 48 47,
 iG (.iaS 1) [.t 48, cI 0] 49 47 false, jB L1 49 50 47, jB (.cvI .i64) 50 51 47, jB .mv 7 52 47, jB .len 52 53 47, iG B5 [.t 53, cI 1] 54 47 false,
 iG B4 [.t 51, .t 54] 55 47 false, jP 47 55 56] (jI 56 (jS [iJ (.bldV 8 1) [cI 0, cI 0, cI 0, cI 0, cI 0, cI 0, cI 0, cI 0] 57, jW 8 2 57,
 jC 8 3] .ret))) (jS [iM 59 7, iM 60 7, jK (.iaS 1) 60 0 61, iU L1 61 62, iU (.cvI .i64) 62 63, iJ B2 [cI 1, .t 63] 64,
 iJ (.slc 1 true true false) [.t 59, cI 1, .t 64] 65, iU (.call 122) 65 66, iM 58 66, iU (.ext 0) 58 67, iU (.ext 1) 58 68, iM 10 67, iM 11 68] (.seq (jS [iM 69 11, jK B6 69 0 70,
 iM 71 70, jB .mv 10 72 71, iG B1 [.t 72, .c (.pv (.i .u64 0))] 73 71 false, jP 71 73 74, iM 75 74, jB .mv 10 76 75,
 iG B4 [.t 76, .c (.pv (.i .u64 4294967295))] 77 75 false, jP 75 77 78] (jI 78 (jS [iJ (.bldV 8 1) [cI 0, cI 0, cI 0, cI 0, cI 0, cI 0, cI 0, cI 0] 79,
 jW 8 2 79, jC 7 3] .ret))) (jS [iM 80 8, iM 81 9, iM 82 10, iU (.cvI .i64) 82 83, iD (.bin .mul) 81 83 84, iD (.iaA 8 1) 4 80 85, jW 1 85 84]
 (.ops [iM 86 7, iM 87 7, jK (.iaS 1) 87 0 88, iU L1 88 89, iU (.cvI .i64) 89 90, iJ B2 [cI 1, .t 90] 91, iD (.slc 1 true false false) 86 91 92, iM 7 92])))))))))
 (.ops [jK B2 29 1 93, iM 29 93]))))))) (.seq (jS [iM 94 7, iU .len 94 95, jK B4 95 0 96]
 (jI 96 (jS [iJ (.bldV 8 1) [cI 0, cI 0, cI 0, cI 0, cI 0, cI 0, cI 0, cI 0] 97, jW 8 2 97, jC 4 3] .ret))) (jS [iU L8 4 98,
 jW 8 2 98, jC 0 3] .ret)))))))))
theorem fn98 : Bf Tryz.prog 98 = some (99, [.c 2 8 true, .t 3], ir98) := by kernel_rfl
def ir99 : C := (jS [iJ (.new (.agg [zI, zU])) [] 2] (.seq (jS [iM 5 0, iU .len 5 6, jK B1 6 0 7] (jI 7 (jS [iJ (.bld [1, 1]) [cI 0, .c zU] 8,
 jW 2 2 8] .ret))) (jS [iM 10 0, jK (.slc 1 true false false) 10 1 11, iU (.call 122) 11 12, iM 9 12, iU (.ext 0) 9 13, iU (.ext 1) 9 14, iM 3 13, iM 4 14]
 (.seq (jS [iM 15 4, jK B6 15 0 16, iM 17 16, jB .mv 3 18 17, iG B4 [.t 18, .c (.pv (.i .u64 1048576))] 19 17 false, jP 17 19 20]
 (jI 20 (jS [iJ (.bld [1, 1]) [cI 0, .c zU] 21, jW 2 2 21] .ret))) (jS [iM 22 0, jK (.iaS 1) 22 0 23, iU L1 23 24, iU (.cvI .i64) 24 25, iM 26 3,
 iU (.cvI .u32) 26 27, iD (.bld [1, 1]) 25 27 28, jW 2 2 28] .ret)))))
theorem fn99 : Bf Tryz.prog 99 = some (29, [.c 2 2 true], ir99) := by kernel_rfl
def ir100 : C := (jS [iJ .mv [.c zF] 4] (.seq (jS [iM 6 0, iU .len 6 7, iM 8 1, iU .len 8 9, iD B6 7 9 10] (jI 10 (jS [iJ .mv [.c zF] 4] .ret)))
 (.seq (jS [iM 11 0, iU .len 11 12, jC 0 13] (.block 0 (.loop (jS [iD B3 13 12 14] (.seq (.ite (.t 14) .skip (.exit 0)) (.seq (.block 1 (jS [iM 15 13, iM 5 15]
 (.seq (.any [] [(iM 16 0, 0, []), (iM 17 5, 0, []), (iD (.iaS 1) 16 17 18, 1, []), (iU L1 18 19, 1, []), (iM 20 1, 0, []), (iM 21 5, 0, []), (iD (.iaS 1) 20 21 22, 1, []), (iU L1 22 23, 1, []),
 (iD B6 19 23 24, 0, [])]) (jI 24 (jS [iJ .mv [.c zF] 4] .ret))))) (.ops [jK B2 13 1 25, iM 13 25]))))))) (jS [iJ .mv [.c zT] 4] .ret))))
theorem fn100 : Bf Tryz.prog 100 = some (26, [.t 4], ir100) := by kernel_rfl
def ir115 : C := (jS [iU .box 1 3, jE 4, iJ .mv [.c zF] 5] (.seq (jS [jC 0 6]
 (.block 0 (.loop (.seq (jS [iM 7 6, iM 8 0, iU .len 8 9, iD B3 7 9 10] (.ite (.t 10) .skip (.exit 0))) (.seq (.block 1 (.seq (.any [] [(iM 13 0, 0, []), (iM 14 6, 0, []),
 (iD (.iaS 21) 13 14 15, 1, []), (jF 0 15 16, 0, []), (iU L2 16 17, 1, []), (iU L2 3 18, 1, []), (iD (.eqv false [.int .i64, .int .u32]) 17 18 19, 0, [])]) (jI 19 (jS [iM 20 0,
 iM 21 6, iD (.iaS 21) 20 21 22, iU (.ld 21 true) 22 23, jW 21 4 23, iJ .mv [.c zT] 5] .ret)))) (.ops [iM 11 6, jK B2 11 1 12, iM 6 12]))))))
 (jS [iJ (.bld [2, 8, 1, 2, 2, 1, 1, 1, 1, 1, 1]) [.c (.agg [zI, zU]), .c zV, cI 0, .c (.agg [zI, zU]), .c (.agg [zI, zU]), .c zS, .c zN, .c zN, cI 0, .c zS, cI 0] 24,
 jW 21 4 24, iJ .mv [.c zF] 5] .ret)))
theorem fn115 : Bf Tryz.prog 115 = some (25, [.c 4 21 true, .t 5], ir115) := by kernel_rfl
def ir116 : C := (jS [iJ .mv [.c zS] 4, jC 0 5] (.seq (jS [iM 6 1, jK B3 6 0 7, iM 8 7, jB .mv 1 9 8, iG B4 [.t 9, cI 200] 10 8 false,
 jP 8 10 11] (jI 11 (jS [iJ .mv [.c zS] 4, jC 4 5] .ret))) (jS [iM 12 0, iM 13 1, iM 14 0, iU .lenS 14 15, iD B5 13 15 16,
 iU (.call 133) 16 17, iD B2 12 17 18, iM 0 18] (jS [iM 19 0, iM 20 1, iD (.sls false true) 19 20 21, iM 4 21, jC 0 5] .ret))))
theorem fn116 : Bf Tryz.prog 116 = some (22, [.t 4, .t 5], ir116) := by kernel_rfl
def ir117 : C := (jS [iJ .mv [.c zS] 6, jC 0 7] (.seq (jS [iM 8 1, jK B3 8 0 9, iM 10 9, jB .mv 1 11 10, iG B4 [.t 11, cI 200] 12 10 false,
 jP 10 12 13, iM 14 13, jB .mv 0 15 14, jB .lenS 15 16 14, iG B4 [.t 16, cI 200] 17 14 false, jP 14 17 18, iM 19 18, jB .mv 1 20 19,
 jB .mv 2 21 19, jB .lenS 21 22 19, iG B2 [.t 20, .t 22] 23 19 false, iG B4 [.t 23, cI 200] 24 19 false, jP 19 24 25] (jI 25 (jS [iJ .mv [.c zS] 6,
 jC 4 7] .ret))) (jS [iM 26 0, iM 27 1, iM 28 2, iU .lenS 28 29, iD B2 27 29 30, iM 31 0, iU .lenS 31 32, iD B5 30 32 33, iU (.call 133) 33 34, iD B2 26 34 35, iM 0 35]
 (.seq (.any [] [(iM 36 0, 0, []), (iM 37 1, 0, []), (iD (.sls false true) 36 37 38, 0, []), (iM 39 2, 0, []), (iD B2 38 39 40, 0, []), (iM 41 0, 0, []), (iM 42 1, 0, []), (iM 43 2, 0, []),
 (iU .lenS 43 44, 0, []), (iD B2 42 44 45, 0, []), (iD (.sls true false) 41 45 46, 0, []), (iD B2 40 46 47, 0, []), (iM 6 47, 0, []), (jC 0 7, 0, [])]) .ret))))
theorem fn117 : Bf Tryz.prog 117 = some (48, [.t 6, .t 7], ir117) := by kernel_rfl
def ir118 : C := (jS [iU .box 1 3, iJ .mv [.c zF] 4] (.seq (jS [jC 0 5] (.block 0 (.loop (.seq (jS [iM 6 5, iM 7 0, iU .len 7 8, iD B3 6 8 9] (.ite (.t 9) .skip
 (.exit 0))) (.seq (.block 1 (.seq (.any [] [(iM 12 0, 0, []), (iM 13 5, 0, []), (iD (.iaS 11) 12 13 14, 1, []), (jF 0 14 15, 0, []), (iU L2 15 16, 1, []), (iU L2 3 17, 1, []),
 (iD (.eqv false [.int .i64, .int .u32]) 16 17 18, 0, [])]) (jI 18 (jS [iJ .mv [.c zT] 4] .ret)))) (.ops [iM 10 5, jK B2 10 1 11, iM 5 11]))))))
 (jS [iJ .mv [.c zF] 4] .ret)))
theorem fn118 : Bf Tryz.prog 118 = some (19, [.t 4], ir118) := by kernel_rfl
def ir119 : C := (jS [iJ .mv [.c zN] 2] (jS [iJ (.bsl 1) [] 6, iM 3 6] (.seq (jS [jC 56 4] (.block 0 (.loop (.seq (jS [iM 7 4, jK B8 7 0 8]
 (.ite (.t 8) .skip (.exit 0))) (.seq (.block 1 (jS [iM 11 0, iM 12 4, iD (.bin .shr) 11 12 13, iU (.cvI .u8) 13 14, iM 5 14] (jS [iM 15 5, iJ B6 [.t 15, .c (.pv (.i .u8 0))] 16,
 iM 17 16, jB .mv 3 18 17, jB .len 18 19 17, iG B4 [.t 19, cI 0] 20 17 false, jP 17 20 21] (jI 21 (.ops [iM 22 3, iM 23 5, iU (.bsl 1) 23 24,
 iD (.app 1 1) 22 24 25, iM 3 25]))))) (.ops [iM 9 4, jK B5 9 8 10, iM 4 10])))))) (jS [iM 26 3, iM 2 26] .ret))))
theorem fn119 : Bf Tryz.prog 119 = some (27, [.t 2], ir119) := by kernel_rfl
def ir120 : C := (jS [iU L1 1 7, iM 3 7] (.block 0 (.loop (.seq (jS [iM 8 3, iU .len 8 9, jK B4 9 0 10] (.ite (.t 10) .skip (.exit 0))) (.block 1 (jS [iM 12 3,
 iU (.call 121) 12 13, iM 11 13, iU (.ext 0) 11 14, iU (.ext 1) 11 15, iU (.ext 2) 11 16, iM 4 14, iM 5 15, iM 6 16] (.seq (jS [iM 17 6, jK B1 17 0 18, iM 19 18, jA .mv 4 20 19,
 jA .mv 3 21 19, jA .len 21 22 19, jA .mv 5 23 19, iG B5 [.t 22, .t 23] 24 19 true, iG B4 [.t 20, .t 24] 25 19 true, jQ 19 25 26]
 (jI 26 (.ops [jC 8 6]))) (.seq (jS [iM 27 6, jK B6 27 0 28] (jI 28 (jS [iM 29 0, iM 30 6, iJ .yv [.t 29, .c zN, .t 30] 31] .ret)))
 (.seq (jS [iM 32 0, iJ (.bsl 1) [] 33, iM 34 3, iM 35 5, iM 36 5, iM 37 4, iD B2 36 37 38, iJ (.slc 1 true true false) [.t 34, .t 35, .t 38] 39, iD (.app 1 1) 33 39 40,
 iJ .yv [.t 32, .t 40, cI 0] 41, iU U1 41 42] (jI 42 .ret)) (.ops [iM 43 3, iM 44 5, iM 45 4, iD B2 44 45 46, iD (.slc 1 true false false) 43 46 47, iM 3 47]))))))))))
theorem fn120 : Bf Tryz.prog 120 = some (48, [], ir120) := by kernel_rfl
def ir121 : C := (jS [jC 0 2, jC 0 3, jC 0 4] (.seq (jS [iM 6 0, jK (.iaS 1) 6 0 7, iU L1 7 8, iJ B3 [.t 8, .c (.pv (.i .u8 255))] 9]
 (jI 9 (jS [iM 10 0, jK (.iaS 1) 10 0 11, iU L1 11 12, iU (.cvI .i64) 12 13, iM 2 13, jC 1 3, jC 0 4] .ret))) (.seq (jS [iM 14 0,
 iU .len 14 15, jK B3 15 3 16] (jI 16 (jS [jC 0 2, jC 0 3, jC 8 4] .ret))) (.seq (.any [] [(iM 17 0, 0, []),
 (jK (.iaS 1) 17 1 18, 1, []), (iU L1 18 19, 1, []), (iU (.cvI .i64) 19 20, 0, []), (iJ (.bin .shl) [.t 20, .c (.pv (.i .u64 8))] 21, 0, []), (iM 22 0, 0, []),
 (jK (.iaS 1) 22 2 23, 1, []), (iU L1 23 24, 1, []), (iU (.cvI .i64) 24 25, 0, []), (iD (.bin .or) 21 25 26, 0, []), (iM 5 26, 0, [])]) (.seq (jS [iM 27 5, jK B3 27 255 28]
 (jI 28 (jS [jC 0 2, jC 0 3, jC 7 4] .ret))) (jS [iM 29 5, iM 2 29, jC 3 3, jC 0 4] .ret))))))
theorem fn121 : Bf Tryz.prog 121 = some (30, [.t 2, .t 3, .t 4], ir121) := by kernel_rfl
def ir122 : C := (jS [iJ .mv [.c (.pv (.i .u64 0))] 2, jC 0 3] (.seq (.block 0 (jS [iM 8 0, iU .len 8 9, jK B4 9 8 10, iM 7 10]
 (.ite (.t 7) (jS [iJ .mv [.c (.pv (.i .u64 0))] 2, jC 4 3] .ret) (jS [iM 12 0, iU .len 12 13, jK B4 13 0 14, iM 15 14, jA .mv 0 16 15,
 iG (.iaS 1) [.t 16, cI 0] 17 15 true, jA L1 17 18 15, iG B1 [.t 18, .c (.pv (.i .u8 0))] 19 15 true, jQ 15 19 20, iM 11 20]
 (jI 11 (jS [iJ .mv [.c (.pv (.i .u64 0))] 2, jC 7 3] .ret)))))) (jS [iJ .mv [.c (.pv (.i .u64 0))] 4] (.seq (jS [iM 21 0, iU .len 21 22,
 jC 0 23] (.block 1 (.loop (jS [iD B3 23 22 24] (.seq (.ite (.t 24) .skip (.exit 1)) (.seq (.block 2 (jS [iD (.iaS 1) 21 23 25, iU L1 25 26, iM 6 26] (.ops [iM 27 4,
 iJ (.bin .shl) [.t 27, .c (.pv (.i .u64 8))] 28, iM 29 6, iU (.cvI .u64) 29 30, iD (.bin .or) 28 30 31, iM 4 31]))) (.ops [jK B2 23 1 32, iM 23 32]))))))) (jS [iM 33 4, iM 2 33,
 jC 0 3] .ret)))))
theorem fn122 : Bf Tryz.prog 122 = some (34, [.t 2, .t 3], ir122) := by kernel_rfl
def ir133 : C := (jS [iJ .mv [.c zS] 2] (jS [iJ .mv [.c zS] 3] (.seq (jS [jC 0 4] (.block 0 (.loop (.seq (jS [iM 5 4, iM 6 0, iD B3 5 6 7]
 (.ite (.t 7) .skip (.exit 0))) (.seq (.block 1 (.ops [iM 10 3, iJ B2 [.t 10, .c (.pv (.s [0]))] 11, iM 3 11])) (.ops [iM 8 4, jK B2 8 1 9, iM 4 9])))))) (jS [iM 12 3, iM 2 12]
 .ret))))
theorem fn133 : Bf Tryz.prog 133 = some (13, [.t 2], ir133) := by kernel_rfl
end Go.Proofs.YtannaphhhkncoaaGreat.Fw
