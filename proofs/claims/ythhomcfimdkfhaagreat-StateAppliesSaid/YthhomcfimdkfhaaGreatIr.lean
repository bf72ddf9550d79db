/- The functions of the program in the small language, each checked against the program. -/
import Derived.Test.YthhomcfimdkfhaaGreatFwD
import Derived.Test.YthhomcfimdkfhaaGreatProg
import Derived.ProofKit
set_option linter.unusedVariables false
set_option linter.unusedSimpArgs false
set_option linter.unusedSectionVars false
set_option maxRecDepth 100000
namespace Go.Proofs.YthhomcfimdkfhaaGreat.Fw
open Go.Proofs
theorem mixed : Tryz.prog.follows .mixedOrders = true := by kernel_rfl
def ir3 : C := (.seq (.ops [iJ .mv [.c zF] 2]) (.seq (.seq (.ops [iJ (.call 9) [] 17, iU U1 17 18, iM 19 18, iV .mv 0 20 19 false, iV (.call 10) 20 21 19 false, iV U1 21 22 19 false,
 iJ .pick [.t 19, .c zT, .t 22] 23]) (.ite (.t 23) (.seq (.ops [iJ (.call 9) [] 24, iM 2 24]) .ret) .skip)) (.seq (.ops [iJ (.new (.agg [zV, zN, zN, zW, zX])) [] 3]) (.seq (.ops [iJ .mv [.c zN] 4])
 (.seq (.seq (.ops [iM 25 0, iU .len 25 26, iJ .mv [cI 0] 27]) (.block 0 (.loop (.seq (.ops [iD B3 27 26 28]) (.seq (.ite (.t 28) .skip (.exit 0)) (.seq (.block 1 (.seq (.ops [iD (.iaS 21) 25 27 29,
 iU (.ld 21 true) 29 30, iJ (.new (.agg [zI, zU, zV, zI, zI, zU, zI, zU, zS, zN, zN, zI, zS, zI])) [] 6, iO (.sto 21) [.t 6, .t 30]]) (.seq (.any [32, 34] [(iM 31 4, 0, [32, 34]),
 (iU (.call 12) 31 32, 1, [32, 34]), (iU (.ld 21 true) 6 33, 1, [32, 34]), (iD (.call 11) 32 33 34, 3, [34]), (iM 7 34, 0, [])]) (.seq (.ops [iU (.ld 26 true) 3 36, iU (.ld 21 true) 6 37,
 iD (.call 13) 36 37 38, iM 35 38, iU (.ext 0) 35 39, iU (.ext 1) 35 40, iJ (.new (.agg [zV, zN, zN, zW, zX])) [] 8, iO (.sto 26) [.t 8, .t 39], iM 9 40]) (.seq (.seq (.ops [iM 41 9, iM 42 7,
 iD B6 41 42 43, iM 44 43, iV .mv 7 45 44 false, iG B6 [.t 45, cI 0] 46 44 false, iV .mv 46 47 44 false, iV (.ld 26 true) 8 48 47 true,
 iG (.bld [8, 1, 1, 8, 8]) [.c zV, .c zN, .c zN, .c zW, .c zX] 49 47 true, iG (.call 14) [.t 48, .t 49] 50 47 true, iV U1 50 51 47 true, iG .pick [.t 47, .t 51, .c zF] 52 44 false,
 iJ .pick [.t 44, .c zT, .t 52] 53]) (.ite (.t 53) (.seq (.ops [iJ .mv [.c zF] 2]) .ret) .skip)) (.seq (.ops [iM 54 7, iJ B1 [.t 54, cI 0] 55]) (.ite (.t 55) (.seq (.ops [iM 56 4,
 iU (.ld 21 true) 6 57, iU (.bsl 21) 57 58, iD (.app 21 184) 56 58 59, iM 4 59]) (.ops [iU (.ld 26 true) 8 60, iO (.sto 26) [.t 3, .t 60]])) .skip))))))) (.ops [iJ B2 [.t 27, cI 1] 61,
 iM 27 61]))))))) (.seq (.ops [iM 62 4, iU (.call 12) 62 63, iJ (.new (.agg [zV, zN, zN, zW, zX])) [] 10, iO (.sto 26) [.t 10, .t 63]]) (.seq (.seq (.ops [iM 64 0, iU .len 64 65, iJ .mv [cI 0] 66])
 (.block 2 (.loop (.seq (.ops [iD B3 66 65 67]) (.seq (.ite (.t 67) .skip (.exit 2)) (.seq (.block 3 (.seq (.ops [iD (.iaS 21) 64 66 68, iU (.ld 21 true) 68 69,
 iJ (.new (.agg [zI, zU, zV, zI, zI, zU, zI, zU, zS, zN, zN, zI, zS, zI])) [] 12, iO (.sto 21) [.t 12, .t 69]]) (.seq (.ops [iU (.ld 26 true) 3 71, iU (.fa 0) 12 72, iU L2 72 73,
 iD (.call 15) 71 73 74, iM 70 74, iU (.ext 0) 70 75, iU (.ext 1) 70 76, iJ (.new (.agg [zI, zU, zF, zI, zU, zS, zV, zN])) [] 13, iO (.sto 15) [.t 13, .t 75], iM 14 76])
 (.seq (.ops [iU (.ld 26 true) 10 78, iU (.fa 0) 12 79, iU L2 79 80, iD (.call 16) 78 80 81, iM 77 81, iU (.ext 0) 77 82, iU (.ext 1) 77 83, iJ (.new (.agg [zI, zU, zF, zI, zU, zS, zV, zN])) [] 15,
 iO (.sto 15) [.t 15, .t 82], iM 16 83]) (.seq (.ops [iM 84 14, iM 85 16, iD (.binB .neq) 84 85 86, iM 87 86, iV (.fa 0) 13 88 87 false, iV L2 88 89 87 false, iV (.fa 0) 15 90 87 false,
 iV L2 90 91 87 false, iG (.eqv true [.int .i64, .int .u32]) [.t 89, .t 91] 92 87 false, iJ .pick [.t 87, .c zT, .t 92] 93, iM 94 93, iV (.fa 5) 13 95 94 false, iV L1 95 96 94 false,
 iV (.fa 5) 15 97 94 false, iV L1 97 98 94 false, iG B6 [.t 96, .t 98] 99 94 false, iJ .pick [.t 94, .c zT, .t 99] 100, iM 101 100, iV (.fa 14) 13 102 101 false, iV L1 102 103 101 false,
 iV .len 103 104 101 false, iV (.fa 14) 15 105 101 false, iV L1 105 106 101 false, iV .len 106 107 101 false, iG B6 [.t 104, .t 107] 108 101 false, iJ .pick [.t 101, .c zT, .t 108] 109])
 (.ite (.t 109) (.seq (.ops [iJ .mv [.c zF] 2]) .ret) .skip)))))) (.ops [iJ B2 [.t 66, cI 1] 110, iM 66 110]))))))) (.seq (.any [113, 116, 118, 123] [(iU (.ld 26 true) 3 111, 1, [113, 116, 118, 123]),
 (iU (.ld 26 true) 10 112, 1, [113, 116, 118, 123]), (iD (.call 14) 111 112 113, 3, [113, 116, 118, 123]), (iM 114 113, 0, [116, 118, 123]), (iV (.ld 26 true) 3 115 114 true, 1, [113, 116, 118, 123]),
 (iV (.call 17) 115 116 114 true, 1, [113, 116, 118, 123]), (iV (.ld 26 true) 10 117 114 true, 1, [113, 116, 118, 123]), (iG (.call 14) [.t 116, .t 117] 118 114 true, 3, [113, 118, 123]),
 (iJ .pick [.t 114, .t 118, .c zF] 119, 0, [113, 116, 123]), (iM 120 119, 0, [113, 116, 123]), (iV (.ld 26 true) 3 121 120 true, 1, [113, 116, 118, 123]),
 (iV (.ld 26 true) 10 122 120 true, 1, [113, 116, 118, 123]), (iG (.call 18) [.t 121, .t 122] 123 120 true, 3, [113, 116, 118, 123]), (iJ .pick [.t 120, .t 123, .c zF] 124, 0, [113, 116, 118]),
 (iM 2 124, 0, [])]) .ret))))))))
theorem fn3 : fnOf Tryz.prog 3 = some (125, [.t 2], ir3) := by kernel_rfl
def ir4 : C := (.seq (.ops [iJ .mv [.c zF] 4]) (.seq (.seq (.ops [iJ (.call 9) [] 17, iU U1 17 18, iM 19 18, iV .mv 0 20 19 false, iV (.call 10) 20 21 19 false, iV U1 21 22 19 false,
 iJ .pick [.t 19, .c zT, .t 22] 23, iM 24 23, iV .mv 0 25 24 false, iV .len 25 26 24 false, iG B1 [.t 26, cI 0] 27 24 false, iJ .pick [.t 24, .c zT, .t 27] 28])
 (.ite (.t 28) (.seq (.ops [iJ (.call 9) [] 29, iM 4 29]) .ret) .skip)) (.seq (.ops [iM 30 0, iU (.call 19) 30 31, iM 5 31]) (.seq (.ops [iJ (.new (.agg [zV, zN, zN, zW, zX])) [] 6,
 iJ (.new (.agg [zV, zN, zN, zW, zX])) [] 7]) (.seq (.seq (.ops [iM 32 5, iU .len 32 33, iJ .mv [cI 0] 34]) (.block 0 (.loop (.seq (.ops [iD B3 34 33 35]) (.seq (.ite (.t 35) .skip (.exit 0))
 (.seq (.block 1 (.seq (.ops [iD (.iaS 21) 32 34 36, iU (.ld 21 true) 36 37, iJ (.new (.agg [zI, zU, zV, zI, zI, zU, zI, zU, zS, zN, zN, zI, zS, zI])) [] 9, iO (.sto 21) [.t 9, .t 37]])
 (.seq (.ops [iU (.ld 26 true) 6 39, iU (.ld 21 true) 9 40, iD (.call 13) 39 40 41, iM 38 41, iU (.ext 0) 38 42, iU (.ext 1) 38 43, iJ (.new (.agg [zV, zN, zN, zW, zX])) [] 10,
 iO (.sto 26) [.t 10, .t 42], iM 11 43]) (.seq (.ops [iU (.ld 26 true) 10 44, iO (.sto 26) [.t 6, .t 44]]) (.seq (.ops [iM 45 11, iJ B6 [.t 45, cI 0] 46]) (.ite (.t 46) (.seq (.ops [iJ .mv [.c zF] 4])
 .ret) .skip)))))) (.ops [iJ B2 [.t 34, cI 1] 47, iM 34 47]))))))) (.seq (.ops [iM 48 5, iU .len 48 49, iM 12 49]) (.seq (.seq (.ops [iM 50 5, iU .len 50 51, iJ .mv [cI 0] 52])
 (.block 2 (.loop (.seq (.ops [iD B3 52 51 53]) (.seq (.ite (.t 53) .skip (.exit 2)) (.seq (.block 3 (.seq (.ops [iM 54 5, iU .len 54 55, iJ .mv [cI 0] 56])
 (.block 4 (.loop (.seq (.ops [iD B3 56 55 57]) (.seq (.ite (.t 57) .skip (.exit 4)) (.seq (.block 5 (.seq (.ops [iM 58 56, iM 13 58]) (.seq (.ops [iM 59 5, iM 60 5, iU .len 60 61,
 iJ B5 [.t 61, cI 1] 62, iM 63 13, iD B5 62 63 64, iM 65 1, iU (.cvI .u64) 65 66, iM 67 5, iU .len 67 68, iU (.cvI .u64) 68 69, iD (.bin .rem) 66 69 70, iU (.cvI .i64) 70 71, iD B2 64 71 72, iM 73 5,
 iU .len 73 74, iD (.bin .rem) 72 74 75, iD (.iaS 21) 59 75 76, iU (.ld 21 true) 76 77, iJ (.new (.agg [zI, zU, zV, zI, zI, zU, zI, zU, zS, zN, zN, zI, zS, zI])) [] 14, iO (.sto 21) [.t 14, .t 77]])
 (.seq (.ops [iU (.ld 26 true) 7 79, iU (.ld 21 true) 14 80, iD (.call 13) 79 80 81, iM 78 81, iU (.ext 0) 78 82, iU (.ext 1) 78 83, iJ (.new (.agg [zV, zN, zN, zW, zX])) [] 15,
 iO (.sto 26) [.t 15, .t 82], iM 16 83]) (.seq (.ops [iM 84 16, iJ B1 [.t 84, cI 0] 85]) (.ite (.t 85) (.seq (.ops [iU (.ld 26 true) 15 86, iO (.sto 26) [.t 7, .t 86]]) (.ops [iM 87 12,
 iJ B5 [.t 87, cI 1] 88, iM 12 88])) .skip)))))) (.ops [iJ B2 [.t 56, cI 1] 89, iM 56 89])))))))) (.ops [iJ B2 [.t 52, cI 1] 90, iM 52 90]))))))) (.seq (.ops [iM 91 12, iJ B1 [.t 91, cI 0] 92,
 iM 93 92, iV (.ld 26 true) 6 94 93 true, iV (.ld 26 true) 7 95 93 true, iG (.call 14) [.t 94, .t 95] 96 93 true, iJ .pick [.t 93, .t 96, .c zF] 97, iM 4 97]) .ret))))))))
theorem fn4 : fnOf Tryz.prog 4 = some (98, [.t 4], ir4) := by kernel_rfl
def ir6 : C := (.seq (.ops [iU .box 1 3, iJ .mv [.c zF] 4]) (.seq (.seq (.ops [iJ (.call 9) [] 11, iU U1 11 12, iM 13 12, iV .mv 0 14 13 false, iV (.call 10) 14 15 13 false, iV U1 15 16 13 false,
 iJ .pick [.t 13, .c zT, .t 16] 17, iM 18 17, iV (.ld 21 true) 3 19 18 false, iV (.bsl 21) 19 20 18 false, iV (.call 10) 20 21 18 false, iV U1 21 22 18 false, iJ .pick [.t 18, .c zT, .t 22] 23])
 (.ite (.t 23) (.seq (.ops [iJ (.call 9) [] 24, iM 4 24]) .ret) .skip)) (.seq (.ops [iM 25 0, iU (.call 19) 25 26, iU (.call 12) 26 27, iJ (.new (.agg [zV, zN, zN, zW, zX])) [] 5,
 iO (.sto 26) [.t 5, .t 27]]) (.seq (.ops [iU (.ld 26 true) 5 29, iU (.ld 21 true) 3 30, iD (.call 13) 29 30 31, iM 28 31, iU (.ext 0) 28 32, iU (.ext 1) 28 33,
 iJ (.new (.agg [zV, zN, zN, zW, zX])) [] 6, iO (.sto 26) [.t 6, .t 32], iM 7 33]) (.seq (.seq (.ops [iM 34 7, iJ B6 [.t 34, cI 0] 35]) (.ite (.t 35) (.seq (.ops [iJ .mv [.c zT] 4]) .ret) .skip))
 (.seq (.ops [iU (.fa 10) 3 36, iU L1 36 37, iJ B1 [.t 37, cI 1] 38, iM 39 38, iV (.fa 10) 3 40 39 false, iV L1 40 41 39 false, iG B1 [.t 41, cI 2] 42 39 false, iJ .pick [.t 39, .c zT, .t 42] 43,
 iM 8 43]) (.seq (.any [] [(iU (.fa 8) 5 44, 0, []), (iU L1 44 45, 1, []), (iU .len 45 46, 1, []), (iU (.fa 9) 5 47, 0, []), (iU L1 47 48, 1, []), (iU .len 48 49, 1, []), (iM 9 46, 0, []),
 (iM 10 49, 0, [])]) (.seq (.seq (.ops [iM 50 8]) (.ite (.t 50) (.ops [iM 51 9, iJ B2 [.t 51, cI 1] 52, iM 9 52]) .skip)) (.seq (.seq (.ops [iM 53 8, iM 54 53, iV (.fa 10) 3 55 54 false,
 iV L1 55 56 54 false, iG B1 [.t 56, cI 7] 57 54 false, iJ .pick [.t 54, .c zT, .t 57] 58]) (.ite (.t 58) (.ops [iM 59 10, iJ B2 [.t 59, cI 1] 60, iM 10 60]) .skip))
 (.seq (.any [67, 74] [(iU (.fa 0) 6 61, 0, [67, 74]), (iU L8 61 62, 1, [67, 74]), (iU (.fa 0) 5 63, 0, [67, 74]), (iU L8 63 64, 1, [67, 74]), (iU (.fa 0) 3 65, 0, [67, 74]),
 (iU L2 65 66, 1, [67, 74]), (iD (.call 20) 64 66 67, 1, [67, 74]), (iD (.eqv false [.int .u32, .int .u32, .int .u32, .int .u32, .int .u32, .int .u32, .int .u32, .int .u32]) 62 67 68, 0, [74]),
 (iM 69 68, 0, [74]), (iV (.fa 0) 5 70 69 true, 0, [67, 74]), (iV L8 70 71 69 true, 1, [67, 74]), (iV (.fa 0) 3 72 69 true, 0, [67, 74]), (iV L2 72 73 69 true, 1, [67, 74]),
 (iG (.call 21) [.t 71, .t 73] 74 69 true, 3, [67, 74]), (iV U1 74 75 69 true, 0, [67]), (iJ .pick [.t 69, .t 75, .c zF] 76, 0, [67, 74]), (iM 77 76, 0, [67]), (iV (.fa 8) 6 78 77 true, 0, [67, 74]),
 (iV L1 78 79 77 true, 1, [67, 74]), (iV .len 79 80 77 true, 1, [67, 74]), (iV .mv 9 81 77 true, 0, [67, 74]), (iG B1 [.t 80, .t 81] 82 77 true, 0, [67, 74]),
 (iJ .pick [.t 77, .t 82, .c zF] 83, 0, [67, 74]), (iM 84 83, 0, [67, 74]), (iV (.fa 9) 6 85 84 true, 0, [67, 74]), (iV L1 85 86 84 true, 1, [67, 74]), (iV .len 86 87 84 true, 1, [67, 74]),
 (iV .mv 10 88 84 true, 0, [67, 74]), (iG B1 [.t 87, .t 88] 89 84 true, 0, [67, 74]), (iJ .pick [.t 84, .t 89, .c zF] 90, 0, [67, 74]), (iM 4 90, 0, [])]) .ret))))))))))
theorem fn6 : fnOf Tryz.prog 6 = some (91, [.t 4], ir6) := by kernel_rfl
def ir7 : C := (.seq (.ops [iJ .mv [.c zF] 4]) (.seq (.seq (.ops [iJ (.call 9) [] 21, iU U1 21 22, iM 23 22, iV .mv 0 24 23 false, iV (.call 10) 24 25 23 false, iV U1 25 26 23 false,
 iJ .pick [.t 23, .c zT, .t 26] 27]) (.ite (.t 27) (.seq (.ops [iJ (.call 9) [] 28, iM 4 28]) .ret) .skip)) (.seq (.ops [iM 29 0, iU (.call 19) 29 30, iM 5 30])
 (.seq (.ops [iJ (.new (.agg [zV, zN, zN, zW, zX])) [] 6, iJ (.new (.agg [zV, zN, zN, zW, zX])) [] 7]) (.seq (.seq (.ops [iM 31 5, iU .len 31 32, iJ .mv [cI 0] 33])
 (.block 0 (.loop (.seq (.ops [iD B3 33 32 34]) (.seq (.ite (.t 34) .skip (.exit 0)) (.seq (.block 1 (.seq (.ops [iM 35 33, iD (.iaS 21) 31 33 36, iU (.ld 21 true) 36 37,
 iJ (.new (.agg [zI, zU, zV, zI, zI, zU, zI, zU, zS, zN, zN, zI, zS, zI])) [] 9, iM 8 35, iO (.sto 21) [.t 9, .t 37]]) (.seq (.ops [iU (.ld 26 true) 7 39, iU (.ld 21 true) 9 40,
 iD (.call 13) 39 40 41, iM 38 41, iU (.ext 0) 38 42, iU (.ext 1) 38 43, iJ (.new (.agg [zV, zN, zN, zW, zX])) [] 10, iO (.sto 26) [.t 10, .t 42], iM 11 43]) (.seq (.seq (.ops [iU (.ld 26 true) 10 44,
 iO (.sto 26) [.t 7, .t 44]]) (.seq (.ops [iM 45 11, iJ B6 [.t 45, cI 0] 46]) (.ite (.t 46) (.seq (.ops [iJ .mv [.c zF] 4]) .ret) .skip))) (.seq (.ops [iM 47 8, iM 48 1, iU (.cvI .u64) 48 49, iM 50 5,
 iU .len 50 51, iU (.cvI .u64) 51 52, iD (.bin .rem) 49 52 53, iU (.cvI .i64) 53 54, iD B1 47 54 55]) (.ite (.t 55) (.ops [iU (.ld 26 true) 7 56, iU (.call 17) 56 57, iO (.sto 26) [.t 6, .t 57]])
 .skip)))))) (.ops [iJ B2 [.t 33, cI 1] 58, iM 33 58]))))))) (.seq (.seq (.ops [iU (.fa 9) 6 59, iU L1 59 60, iU .len 60 61, iJ .mv [cI 0] 62]) (.block 2 (.loop (.seq (.ops [iD B3 62 61 63])
 (.seq (.ite (.t 63) .skip (.exit 2)) (.seq (.block 3 (.seq (.ops [iD (.iaS 15) 60 62 64, iU (.ld 15 true) 64 65, iJ (.new (.agg [zI, zU, zI, zU, zS, zI, zU, zV])) [] 13, iO (.sto 15) [.t 13, .t 65]])
 (.seq (.ops [iJ .mv [.c zF] 14]) (.seq (.seq (.ops [iU (.fa 9) 7 66, iU L1 66 67, iU .len 67 68, iJ .mv [cI 0] 69]) (.block 4 (.loop (.seq (.ops [iD B3 69 68 70]) (.seq (.ite (.t 70) .skip (.exit 4))
 (.seq (.block 5 (.seq (.ops [iD (.iaS 15) 67 69 71, iU (.ld 15 true) 71 72, iJ (.new (.agg [zI, zU, zI, zU, zS, zI, zU, zV])) [] 16, iO (.sto 15) [.t 16, .t 72]]) (.ops [iM 73 14, iM 74 73,
 iV (.fa 0) 16 75 74 false, iV L2 75 76 74 false, iV (.fa 0) 13 77 74 false, iV L2 77 78 74 false, iG (.eqv false [.int .i64, .int .u32]) [.t 76, .t 78] 79 74 false, iV .mv 79 80 74 false,
 iV (.fa 2) 16 81 80 true, iV L2 81 82 80 true, iV (.fa 2) 13 83 80 true, iV L2 83 84 80 true, iG (.eqv false [.int .i64, .int .u32]) [.t 82, .t 84] 85 80 true,
 iG .pick [.t 80, .t 85, .c zF] 86 74 false, iV .mv 86 87 74 false, iV (.fa 4) 16 88 87 true, iV L1 88 89 87 true, iV (.fa 4) 13 90 87 true, iV L1 90 91 87 true, iG B1 [.t 89, .t 91] 92 87 true,
 iG .pick [.t 87, .t 92, .c zF] 93 74 false, iV .mv 93 94 74 false, iV (.fa 5) 16 95 94 true, iV L2 95 96 94 true, iV (.fa 5) 13 97 94 true, iV L2 97 98 94 true,
 iG (.eqv false [.int .i64, .int .u32]) [.t 96, .t 98] 99 94 true, iG .pick [.t 94, .t 99, .c zF] 100 74 false, iV .mv 100 101 74 false, iV (.fa 7) 13 102 101 true, iV L8 102 103 101 true,
 iV (.fa 7) 16 104 101 true, iV L8 104 105 101 true, iG (.call 22) [.t 103, .t 105] 106 101 true, iG .pick [.t 101, .t 106, .c zF] 107 74 false, iJ .pick [.t 74, .c zT, .t 107] 108, iM 14 108])))
 (.ops [iJ B2 [.t 69, cI 1] 109, iM 69 109]))))))) (.seq (.ops [iM 110 14, iU U1 110 111]) (.ite (.t 111) (.seq (.ops [iJ .mv [.c zF] 4]) .ret) .skip)))))) (.ops [iJ B2 [.t 62, cI 1] 112,
 iM 62 112]))))))) (.seq (.seq (.ops [iU (.fa 8) 6 113, iU L1 113 114, iU .len 114 115, iJ .mv [cI 0] 116]) (.block 6 (.loop (.seq (.ops [iD B3 116 115 117]) (.seq (.ite (.t 117) .skip (.exit 6))
 (.seq (.block 7 (.seq (.ops [iD (.iaS 15) 114 116 118, iU (.ld 15 true) 118 119, iJ (.new (.agg [zI, zU, zF, zI, zU, zS, zV, zN])) [] 18, iO (.sto 15) [.t 18, .t 119]])
 (.seq (.ops [iU (.ld 26 true) 7 121, iU (.fa 0) 18 122, iU L2 122 123, iD (.call 15) 121 123 124, iM 120 124, iU (.ext 0) 120 125, iU (.ext 1) 120 126,
 iJ (.new (.agg [zI, zU, zF, zI, zU, zS, zV, zN])) [] 19, iO (.sto 15) [.t 19, .t 125], iM 20 126]) (.seq (.ops [iM 127 20, iU U1 127 128, iM 129 128, iV (.fa 2) 19 130 129 false,
 iV L1 130 131 129 false, iV (.fa 2) 18 132 129 false, iV L1 132 133 129 false, iG (.binB .neq) [.t 131, .t 133] 134 129 false, iJ .pick [.t 129, .c zT, .t 134] 135, iM 136 135,
 iV (.fa 6) 18 137 136 false, iV L8 137 138 136 false, iV (.fa 6) 19 139 136 false, iV L8 139 140 136 false, iG (.call 22) [.t 138, .t 140] 141 136 false, iV U1 141 142 136 false,
 iJ .pick [.t 136, .c zT, .t 142] 143, iM 144 143, iV (.fa 14) 19 145 144 false, iV L1 145 146 144 false, iV .len 146 147 144 false, iV (.fa 14) 18 148 144 false, iV L1 148 149 144 false,
 iV .len 149 150 144 false, iG B3 [.t 147, .t 150] 151 144 false, iJ .pick [.t 144, .c zT, .t 151] 152]) (.ite (.t 152) (.seq (.ops [iJ .mv [.c zF] 4]) .ret) .skip)))))
 (.ops [iJ B2 [.t 116, cI 1] 153, iM 116 153]))))))) (.seq (.ops [iU (.fa 0) 6 154, iU L8 154 155, iU (.fa 0) 7 156, iU L8 156 157, iD (.call 22) 155 157 158, iM 4 158]) .ret))))))))
theorem fn7 : fnOf Tryz.prog 7 = some (159, [.t 4], ir7) := by kernel_rfl
def ir9 : C := (.seq (.ops [iJ .mv [.c zF] 0]) (.seq (.ops [iJ (.bld [1, 1]) [cI 1, .c (.pv (.i .u32 1))] 9,
 iJ (.bld [2, 8, 1, 2, 2, 1, 1, 1, 1, 1, 1]) [.t 9, .c zV, cI 2, .c (.agg [zI, zU]), .c (.agg [zI, zU]), .c (.pv (.s [100])), .c zN, .c zN, cI 0, .c zS, cI 0] 10,
 iJ (.new (.agg [zI, zU, zV, zI, zI, zU, zI, zU, zS, zN, zN, zI, zS, zI])) [] 1, iO (.sto 21) [.t 1, .t 10]]) (.seq (.ops [iJ (.bld [1, 1]) [cI 1, .c (.pv (.i .u32 2))] 11,
 iJ (.bldV 8 1) [.c (.pv (.i .u32 1)), .c zU, .c zU, .c zU, .c zU, .c zU, .c zU, .c zU] 12, iU (.fa 0) 1 13, iU L2 13 14,
 iJ (.bld [2, 8, 1, 2, 2, 1, 1, 1, 1, 1, 1]) [.t 11, .t 12, cI 1, .c (.agg [zI, zU]), .t 14, .c (.pv (.s [102])), .c zN, .c zN, cI 0, .c zS, cI 0] 15,
 iJ (.new (.agg [zI, zU, zV, zI, zI, zU, zI, zU, zS, zN, zN, zI, zS, zI])) [] 2, iO (.sto 21) [.t 2, .t 15]]) (.seq (.ops [iJ (.bld [8, 1, 1, 8, 8]) [.c zV, .c zN, .c zN, .c zW, .c zX] 17,
 iU (.ld 21 true) 1 18, iD (.call 13) 17 18 19, iM 16 19, iU (.ext 0) 16 20, iU (.ext 1) 16 21, iJ (.new (.agg [zV, zN, zN, zW, zX])) [] 3, iO (.sto 26) [.t 3, .t 20], iM 4 21])
 (.seq (.ops [iU (.ld 26 true) 3 23, iU (.ld 21 true) 2 24, iD (.call 13) 23 24 25, iM 22 25, iU (.ext 0) 22 26, iU (.ext 1) 22 27, iJ (.new (.agg [zV, zN, zN, zW, zX])) [] 5,
 iO (.sto 26) [.t 5, .t 26], iM 6 27]) (.seq (.ops [iU (.ld 26 true) 5 29, iU (.fa 0) 2 30, iU L2 30 31, iD (.call 15) 29 31 32, iM 28 32, iU (.ext 0) 28 33, iU (.ext 1) 28 34,
 iJ (.new (.agg [zI, zU, zF, zI, zU, zS, zV, zN])) [] 7, iO (.sto 15) [.t 7, .t 33], iM 8 34]) (.seq (.ops [iM 35 4, iJ B1 [.t 35, cI 0] 36, iM 37 36, iV .mv 6 38 37 true,
 iG B1 [.t 38, cI 0] 39 37 true, iJ .pick [.t 37, .t 39, .c zF] 40, iM 41 40, iV (.fa 8) 5 42 41 true, iV L1 42 43 41 true, iV .len 43 44 41 true, iG B1 [.t 44, cI 2] 45 41 true,
 iJ .pick [.t 41, .t 45, .c zF] 46, iM 47 46, iV (.fa 9) 5 48 47 true, iV L1 48 49 47 true, iV .len 49 50 47 true, iG B1 [.t 50, cI 2] 51 47 true, iJ .pick [.t 47, .t 51, .c zF] 52, iM 53 52,
 iV .mv 8 54 53 true, iJ .pick [.t 53, .t 54, .c zF] 55, iM 56 55, iV (.fa 5) 7 57 56 true, iV L1 57 58 56 true, iG B1 [.t 58, .c (.pv (.s [102]))] 59 56 true, iJ .pick [.t 56, .t 59, .c zF] 60,
 iM 61 60, iV (.fa 2) 7 62 61 true, iV L1 62 63 61 true, iV U1 63 64 61 true, iJ .pick [.t 61, .t 64, .c zF] 65, iM 66 65, iV (.ld 26 true) 5 67 66 true, iV (.ld 26 true) 5 68 66 true,
 iG (.call 18) [.t 67, .t 68] 69 66 true, iJ .pick [.t 66, .t 69, .c zF] 70, iM 0 70]) .ret)))))))
theorem fn9 : fnOf Tryz.prog 9 = some (71, [.t 0], ir9) := by kernel_rfl
def ir10 : C := (.seq (.ops [iJ .mv [.c zF] 2]) (.seq (.seq (.ops [iM 5 0, iU .len 5 6, iJ B4 [.t 6, cI 30] 7]) (.ite (.t 7) (.seq (.ops [iJ .mv [.c zF] 2]) .ret) .skip)) (.seq (.seq (.ops [iM 8 0,
 iU .len 8 9, iJ .mv [cI 0] 10]) (.block 0 (.loop (.seq (.ops [iD B3 10 9 11]) (.seq (.ite (.t 11) .skip (.exit 0)) (.seq (.block 1 (.seq (.ops [iD (.iaS 21) 8 10 12, iU (.ld 21 true) 12 13,
 iJ (.new (.agg [zI, zU, zV, zI, zI, zU, zI, zU, zS, zN, zN, zI, zS, zI])) [] 4, iO (.sto 21) [.t 4, .t 13]]) (.seq (.ops [iU (.fa 15) 4 14, iU L1 14 15, iU .lenS 15 16, iJ B4 [.t 16, cI 30] 17,
 iM 18 17, iV (.fa 19) 4 19 18 false, iV L1 19 20 18 false, iV .lenS 20 21 18 false, iG B4 [.t 21, cI 250] 22 18 false, iJ .pick [.t 18, .c zT, .t 22] 23, iM 24 23, iV (.fa 16) 4 25 24 false,
 iV L1 25 26 24 false, iV .len 26 27 24 false, iG B4 [.t 27, cI 10] 28 24 false, iJ .pick [.t 24, .c zT, .t 28] 29, iM 30 29, iV (.fa 17) 4 31 30 false, iV L1 31 32 30 false, iV .len 32 33 30 false,
 iG B4 [.t 33, cI 10] 34 30 false, iJ .pick [.t 30, .c zT, .t 34] 35]) (.ite (.t 35) (.seq (.ops [iJ .mv [.c zF] 2]) .ret) .skip)))) (.ops [iJ B2 [.t 10, cI 1] 36, iM 10 36])))))))
 (.seq (.ops [iJ .mv [.c zT] 2]) .ret))))
theorem fn10 : fnOf Tryz.prog 10 = some (37, [.t 2], ir10) := by kernel_rfl
def ir11 : C := (.seq (.ops [iU .box 0 2, iU .box 1 3, iJ .mv [cI 0] 4]) (.seq (.seq (.ops [iU (.ld 21 true) 3 10, iU (.call 25) 10 11, iU U1 11 12]) (.ite (.t 12) (.seq (.ops [iJ .mv [cI 7] 4]) .ret)
 .skip)) (.seq (.seq (.ops [iU (.fa 0) 2 13, iU L8 13 14, iU (.fa 0) 3 15, iU L2 15 16, iD (.call 21) 14 16 17]) (.ite (.t 17) (.seq (.ops [iJ .mv [cI 11] 4]) .ret) .skip))
 (.seq (.seq (.ops [iU (.fa 2) 3 18, iU L8 18 19, iU (.fa 0) 2 20, iU L8 20 21, iD (.call 22) 19 21 22, iU U1 22 23]) (.ite (.t 23) (.seq (.ops [iJ .mv [cI 10] 4]) .ret) .skip))
 (.seq (.seq (.ops [iU (.fa 0) 3 24, iU (.fa 0) 24 25, iU L1 25 26, iJ B5 [.t 26, cI 1] 27, iU (.fa 18) 2 28, iD (.iaA 8 1) 28 27 29, iU L1 29 30]) (.ite (.t 30) (.seq (.ops [iJ .mv [cI 28] 4]) .ret)
 .skip)) (.seq (.seq (.ops [iU (.fa 10) 3 31, iU L1 31 32, iJ B1 [.t 32, cI 8] 33, iM 34 33, iV (.fa 10) 3 35 34 false, iV L1 35 36 34 false, iG B1 [.t 36, cI 9] 37 34 false,
 iJ .pick [.t 34, .c zT, .t 37] 38]) (.ite (.t 38) (.seq (.ops [iJ .mv [cI 0] 4]) .ret) .skip)) (.seq (.seq (.ops [iU (.fa 10) 3 39, iU L1 39 40, iJ B1 [.t 40, cI 1] 41, iM 42 41,
 iV (.fa 10) 3 43 42 false, iV L1 43 44 42 false, iG B1 [.t 44, cI 2] 45 42 false, iJ .pick [.t 42, .c zT, .t 45] 46]) (.ite (.t 46) (.seq (.ops [iU (.ld 26 true) 2 47, iU (.fa 13) 3 48, iU L2 48 49,
 iD (.call 26) 47 49 50, iM 4 50]) .ret) .skip)) (.seq (.ops [iU (.ld 26 true) 2 52, iU (.fa 11) 3 53, iU L2 53 54, iD (.call 16) 52 54 55, iM 51 55, iU (.ext 0) 51 56, iU (.ext 1) 51 57,
 iJ (.new (.agg [zI, zU, zF, zI, zU, zS, zV, zN])) [] 5, iO (.sto 15) [.t 5, .t 56], iM 6 57]) (.seq (.seq (.ops [iM 58 6, iU U1 58 59]) (.ite (.t 59) (.seq (.ops [iJ .mv [cI 2] 4]) .ret) .skip))
 (.seq (.seq (.ops [iU (.fa 10) 3 60, iU L1 60 61, iJ B1 [.t 61, cI 7] 62]) (.ite (.t 62) (.seq (.ops [iU (.ld 26 true) 2 63, iU (.fa 13) 3 64, iU L2 64 65, iD (.call 26) 63 65 66, iM 4 66]) .ret)
 .skip)) (.seq (.seq (.ops [iU (.fa 10) 3 67, iU L1 67 68, iJ B1 [.t 68, cI 6] 69]) (.ite (.t 69) (.seq (.ops [iJ .mv [cI 0] 4]) .ret) .skip)) (.seq (.seq (.ops [iU (.fa 2) 5 70, iU L1 70 71])
 (.ite (.t 71) (.seq (.ops [iJ .mv [cI 23] 4]) .ret) .skip)) (.seq (.seq (.ops [iJ .mv [cI 0] 7]) (.block 0 (.loop (.seq (.seq (.ops [iM 72 7, iU (.fa 17) 3 73, iU L1 73 74, iU .len 74 75,
 iD B3 72 75 76]) (.ite (.t 76) .skip (.exit 0))) (.seq (.block 1 (.seq (.any [87] [(iU (.fa 14) 5 80, 0, [87]), (iU L1 80 81, 1, [87]), (iU (.fa 17) 3 82, 0, [87]), (iU L1 82 83, 1, [87]),
 (iM 84 7, 0, [87]), (iD (.iaS 2) 83 84 85, 1, [87]), (iU L2 85 86, 1, [87]), (iD (.call 27) 81 86 87, 3, [87]), (iM 79 87, 0, []), (iU (.ext 0) 79 88, 0, [87]), (iU (.ext 1) 79 89, 0, [87]),
 (iM 8 88, 0, []), (iM 9 89, 0, [])]) (.seq (.ops [iM 90 9, iJ B6 [.t 90, cI 0] 91]) (.ite (.t 91) (.seq (.ops [iJ .mv [cI 2] 4]) .ret) .skip)))) (.ops [iM 77 7, iJ B2 [.t 77, cI 1] 78, iM 7 78]))))))
 (.seq (.ops [iJ .mv [cI 0] 4]) .ret))))))))))))))
theorem fn11 : fnOf Tryz.prog 11 = some (92, [.t 4], ir11) := by kernel_rfl
def ir12 : C := (.seq (.ops [iJ (.new (.agg [zV, zN, zN, zW, zX])) [] 2]) (.seq (.ops [iM 10 0, iU (.call 28) 10 11, iM 12 0, iU (.call 29) 12 13,
 iJ (.bld [8, 1, 1, 8, 8]) [.t 11, .c zN, .t 13, .c zW, .c zX] 14, iJ (.new (.agg [zV, zN, zN, zW, zX])) [] 3, iO (.sto 26) [.t 3, .t 14]])
 (.seq (.ops [iJ (.bldV 8 1) [.c zU, .c zU, .c zU, .c zU, .c zU, .c zU, .c zU, .c zU] 15, iJ (.new zV) [] 4, iO (.sto 8) [.t 4, .t 15]]) (.seq (.seq (.ops [iJ .mv [cI 0] 5])
 (.block 0 (.loop (.seq (.seq (.ops [iM 16 5, iM 17 0, iU .len 17 18, iD B3 16 18 19]) (.ite (.t 19) .skip (.exit 0))) (.seq (.block 1 (.seq (.ops [iM 22 0, iM 23 5, iD (.iaS 21) 22 23 24,
 iU (.ld 21 true) 24 25, iJ (.new (.agg [zI, zU, zV, zI, zI, zU, zI, zU, zS, zN, zN, zI, zS, zI])) [] 6, iO (.sto 21) [.t 6, .t 25]]) (.seq (.seq (.ops [iU (.fa 10) 6 26, iU L1 26 27,
 iJ B1 [.t 27, cI 1] 28, iM 29 28, iV (.fa 10) 6 30 29 false, iV L1 30 31 29 false, iG B1 [.t 31, cI 2] 32 29 false, iJ .pick [.t 29, .c zT, .t 32] 33]) (.ite (.t 33) (.seq (.ops [iM 34 0,
 iU (.ld 21 true) 6 35, iD (.call 30) 34 35 36, iJ (.new (.agg [zI, zU, zF, zI, zU, zS, zV, zN])) [] 7, iO (.sto 15) [.t 7, .t 36]]) (.seq (.ops [iU (.fa 8) 3 37, iU L1 37 38, iU .len 38 39, iM 8 39])
 (.seq (.block 2 (.loop (.seq (.seq (.any [52] [(iM 40 8, 0, [52]), (iJ B4 [.t 40, cI 0] 41, 0, [52]), (iM 42 41, 0, [52]), (iV (.fa 0) 7 43 42 true, 0, [52]), (iV L2 43 44 42 true, 1, [52]),
 (iV (.fa 8) 3 45 42 true, 0, [52]), (iV L1 45 46 42 true, 1, [52]), (iV .mv 8 47 42 true, 0, [52]), (iG B5 [.t 47, cI 1] 48 42 true, 0, [52]), (iG (.iaS 15) [.t 46, .t 48] 49 42 true, 1, [52]),
 (iV (.fa 0) 49 50 42 true, 0, [52]), (iV L2 50 51 42 true, 1, [52]), (iG (.call 31) [.t 44, .t 51] 52 42 true, 3, [52]), (iJ .pick [.t 42, .t 52, .c zF] 53, 0, [])]) (.ite (.t 53) .skip (.exit 2)))
 (.block 3 (.ops [iM 54 8, iJ B5 [.t 54, cI 1] 55, iM 8 55]))))) (.seq (.anyF [57, 62] [(iU (.ld 15 true) 7 56, 1, [57, 62]), (iU (.bsl 15) 56 57, 1, [57, 62]), (iU (.fa 8) 3 58, 0, [57, 62]),
 (iU L1 58 59, 1, [57, 62]), (iM 60 8, 0, [57, 62]), (iD (.slc 15 true false false) 59 60 61, 1, [57, 62]), (iD (.app 15 112) 57 61 62, 2, [62]), (iM 9 62, 0, [])]) (.ops [iJ (.bsl 15) [] 63,
 iU (.fa 8) 3 64, iU L1 64 65, iM 66 8, iD (.slc 15 false true false) 65 66 67, iD (.app 15 112) 63 67 68, iM 69 9, iD (.app 15 112) 68 69 70, iU (.fa 8) 3 71, iO S1 [.t 71, .t 70]]))))) .skip))
 (.seq (.seq (.any [83] [(iU (.fa 10) 6 72, 0, [83]), (iU L1 72 73, 1, [83]), (iJ B1 [.t 73, cI 8] 74, 0, [83]), (iM 75 74, 0, [83]), (iV (.fa 0) 6 76 75 true, 0, [83]),
 (iV (.fa 1) 76 77 75 true, 0, [83]), (iV L1 77 78 75 true, 1, [83]), (iV L8 4 79 75 true, 1, [83]), (iV (.fa 0) 6 80 75 true, 0, [83]), (iV (.fa 0) 80 81 75 true, 0, [83]),
 (iV L1 81 82 75 true, 1, [83]), (iG (.call 32) [.t 79, .t 82] 83 75 true, 1, [83]), (iG B4 [.t 78, .t 83] 84 75 true, 0, []), (iJ .pick [.t 75, .t 84, .c zF] 85, 0, [83])])
 (.ite (.t 85) (.seq (.ops [iU L8 4 86, iU (.fa 0) 6 87, iU L2 87 88, iD (.call 20) 86 88 89, iO (.sto 8) [.t 4, .t 89]]) (.ops [iU (.fa 0) 6 90, iU (.fa 0) 90 91, iU L1 91 92, iJ B5 [.t 92, cI 1] 93,
 iU (.fa 20) 6 94, iU L1 94 95, iU (.fa 10) 3 96, iD (.iaA 8 1) 96 93 97, iO S1 [.t 97, .t 95]])) .skip)) (.seq (.ops [iU (.fa 10) 6 98, iU L1 98 99, iJ B1 [.t 99, cI 9] 100])
 (.ite (.t 100) (.ops [iU (.fa 0) 6 101, iU (.fa 0) 101 102, iU L1 102 103, iJ B5 [.t 103, cI 1] 104, iU (.fa 18) 3 105, iD (.iaA 8 1) 105 104 106, iO S1 [.t 106, .c zT]]) .skip)))))) (.ops [iM 20 5,
 iJ B2 [.t 20, cI 1] 21, iM 5 21])))))) (.seq (.ops [iU (.ld 26 true) 3 107, iO (.sto 26) [.t 2, .t 107]]) .ret)))))
theorem fn12 : fnOf Tryz.prog 12 = some (108, [.c 2 26 true], ir12) := by kernel_rfl
def ir13 : C := (.seq (.ops [iU .box 0 2, iU .box 1 3, iJ (.new (.agg [zV, zN, zN, zW, zX])) [] 4, iJ .mv [cI 0] 5]) (.seq (.block 0 (.seq (.ops [iU (.ld 21 true) 3 9, iU (.call 33) 9 10, iU U1 10 11,
 iM 8 11]) (.ite (.t 8) (.seq (.ops [iJ (.bld [8, 1, 1, 8, 8]) [.c zV, .c zN, .c zN, .c zW, .c zX] 12, iO (.sto 26) [.t 4, .t 12], iJ .mv [cI 7] 5]) .ret) (.seq (.ops [iU (.fa 0) 2 14, iU L8 14 15,
 iU (.fa 0) 3 16, iU L2 16 17, iD (.call 34) 15 17 18, iM 13 18]) (.ite (.t 13) (.seq (.ops [iJ (.bld [8, 1, 1, 8, 8]) [.c zV, .c zN, .c zN, .c zW, .c zX] 19, iO (.sto 26) [.t 4, .t 19],
 iJ .mv [cI 11] 5]) .ret) (.seq (.ops [iU (.fa 2) 3 21, iU L8 21 22, iU (.fa 0) 2 23, iU L8 23 24, iD (.call 35) 22 24 25, iU U1 25 26, iM 20 26])
 (.ite (.t 20) (.seq (.ops [iJ (.bld [8, 1, 1, 8, 8]) [.c zV, .c zN, .c zN, .c zW, .c zX] 27, iO (.sto 26) [.t 4, .t 27], iJ .mv [cI 10] 5]) .ret) (.seq (.ops [iU (.fa 0) 3 29, iU (.fa 0) 29 30,
 iU L1 30 31, iJ B5 [.t 31, cI 1] 32, iU (.fa 18) 2 33, iD (.iaA 8 1) 33 32 34, iU L1 34 35, iM 28 35]) (.ite (.t 28) (.seq (.ops [iJ (.bld [8, 1, 1, 8, 8]) [.c zV, .c zN, .c zN, .c zW, .c zX] 36,
 iO (.sto 26) [.t 4, .t 36], iJ .mv [cI 28] 5]) .ret) .skip))))))))) (.seq (.ops [iU (.ld 26 true) 2 37, iU (.call 17) 37 38, iJ (.new (.agg [zV, zN, zN, zW, zX])) [] 6, iO (.sto 26) [.t 6, .t 38]])
 (.seq (.ops [iU (.fa 0) 2 39, iU L8 39 40, iU (.fa 0) 3 41, iU L2 41 42, iD (.call 36) 40 42 43, iU (.fa 0) 6 44, iO (.sto 8) [.t 44, .t 43]]) (.seq (.seq (.ops [iU (.ld 21 true) 3 45,
 iD (.call 37) 6 45 46, iM 7 46]) (.seq (.ops [iM 47 7, iJ B6 [.t 47, cI 0] 48]) (.ite (.t 48) (.seq (.ops [iJ (.bld [8, 1, 1, 8, 8]) [.c zV, .c zN, .c zN, .c zW, .c zX] 49, iM 50 7,
 iO (.sto 26) [.t 4, .t 49], iM 5 50]) .ret) .skip))) (.seq (.ops [iU (.ld 26 true) 6 51, iO (.sto 26) [.t 4, .t 51], iJ .mv [cI 0] 5]) .ret))))))
theorem fn13 : fnOf Tryz.prog 13 = some (52, [.c 4 26 true, .t 5], ir13) := by kernel_rfl
def ir14 : C := (.seq (.ops [iU .box 0 2, iU .box 1 3, iJ .mv [.c zF] 4]) (.seq (.seq (.ops [iU (.fa 0) 2 8, iU L8 8 9, iU (.fa 0) 3 10, iU L8 10 11,
 iD (.eqv true [.int .u32, .int .u32, .int .u32, .int .u32, .int .u32, .int .u32, .int .u32, .int .u32]) 9 11 12, iM 13 12, iV (.fa 10) 2 14 13 false, iV L8 14 15 13 false, iV (.fa 10) 3 16 13 false,
 iV L8 16 17 13 false, iG (.eqv true [.int .i64, .int .i64, .int .i64, .int .i64, .int .i64, .int .i64, .int .i64, .int .i64]) [.t 15, .t 17] 18 13 false, iJ .pick [.t 13, .c zT, .t 18] 19, iM 20 19,
 iV (.fa 18) 2 21 20 false, iV L8 21 22 20 false, iV (.fa 18) 3 23 20 false, iV L8 23 24 20 false, iG (.eqv true [.bool, .bool, .bool, .bool, .bool, .bool, .bool, .bool]) [.t 22, .t 24] 25 20 false,
 iJ .pick [.t 20, .c zT, .t 25] 26, iM 27 26, iV (.fa 9) 2 28 27 false, iV L1 28 29 27 false, iV (.fa 9) 3 30 27 false, iV L1 30 31 27 false, iG (.call 38) [.t 29, .t 31] 32 27 false,
 iV U1 32 33 27 false, iJ .pick [.t 27, .c zT, .t 33] 34, iM 35 34, iV (.fa 8) 2 36 35 false, iV L1 36 37 35 false, iV .len 37 38 35 false, iV (.fa 8) 3 39 35 false, iV L1 39 40 35 false,
 iV .len 40 41 35 false, iG B6 [.t 38, .t 41] 42 35 false, iJ .pick [.t 35, .c zT, .t 42] 43]) (.ite (.t 43) (.seq (.ops [iJ .mv [.c zF] 4]) .ret) .skip)) (.seq (.seq (.ops [iJ .mv [cI 0] 5])
 (.block 0 (.loop (.seq (.seq (.ops [iM 44 5, iU (.fa 8) 2 45, iU L1 45 46, iU .len 46 47, iD B3 44 47 48]) (.ite (.t 48) .skip (.exit 0)))
 (.seq (.block 1 (.seq (.anyP [6, 7] [(iU (.fa 8) 2 51, 0, [6, 7], [], 0), (iU L1 51 52, 1, [6, 7], [], 1), (iM 53 5, 0, [6, 7], [], 2), (iD (.iaS 15) 52 53 54, 1, [6, 7], [], 3),
 (iU (.ld 15 true) 54 55, 1, [6, 7], [], 4), (iU (.fa 8) 3 56, 0, [6, 7], [], 5), (iU L1 56 57, 1, [6, 7], [], 6), (iM 58 5, 0, [6, 7], [], 7), (iD (.iaS 15) 57 58 59, 1, [6, 7], [], 8),
 (iU (.ld 15 true) 59 60, 1, [6, 7], [], 9), (iJ (.new (.agg [zI, zU, zF, zI, zU, zS, zV, zN])) [] 6, 1, [6, 7], [], 10), (iJ (.new (.agg [zI, zU, zF, zI, zU, zS, zV, zN])) [] 7, 1, [6, 7], [], 11),
 (iO (.sto 15) [.t 6, .t 55], 2, [], [6, 8, 9], 12), (iO (.sto 15) [.t 7, .t 60], 2, [], [], 13)]) (.seq (.ops [iU (.fa 0) 6 61, iU L2 61 62, iU (.fa 0) 7 63, iU L2 63 64,
 iD (.eqv true [.int .i64, .int .u32]) 62 64 65, iM 66 65, iV (.fa 2) 6 67 66 false, iV L1 67 68 66 false, iV (.fa 2) 7 69 66 false, iV L1 69 70 66 false, iG (.binB .neq) [.t 68, .t 70] 71 66 false,
 iJ .pick [.t 66, .c zT, .t 71] 72, iM 73 72, iV (.fa 3) 6 74 73 false, iV L2 74 75 73 false, iV (.fa 3) 7 76 73 false, iV L2 76 77 73 false,
 iG (.eqv true [.int .i64, .int .u32]) [.t 75, .t 77] 78 73 false, iJ .pick [.t 73, .c zT, .t 78] 79, iM 80 79, iV (.fa 5) 6 81 80 false, iV L1 81 82 80 false, iV (.fa 5) 7 83 80 false,
 iV L1 83 84 80 false, iG B6 [.t 82, .t 84] 85 80 false, iJ .pick [.t 80, .c zT, .t 85] 86, iM 87 86, iV (.fa 6) 6 88 87 false, iV L8 88 89 87 false, iV (.fa 6) 7 90 87 false, iV L8 90 91 87 false,
 iG (.eqv true [.int .u32, .int .u32, .int .u32, .int .u32, .int .u32, .int .u32, .int .u32, .int .u32]) [.t 89, .t 91] 92 87 false, iJ .pick [.t 87, .c zT, .t 92] 93, iM 94 93,
 iV (.fa 14) 6 95 94 false, iV L1 95 96 94 false, iV (.fa 14) 7 97 94 false, iV L1 97 98 94 false, iG (.call 39) [.t 96, .t 98] 99 94 false, iV U1 99 100 94 false,
 iJ .pick [.t 94, .c zT, .t 100] 101]) (.ite (.t 101) (.seq (.ops [iJ .mv [.c zF] 4]) .ret) .skip)))) (.ops [iM 49 5, iJ B2 [.t 49, cI 1] 50, iM 5 50])))))) (.seq (.ops [iJ .mv [.c zT] 4]) .ret))))
theorem fn14 : fnOf Tryz.prog 14 = some (102, [.t 4], ir14) := by kernel_rfl
def ir15 : C := (.seq (.ops [iU .box 0 2, iU .box 1 3, iJ (.new (.agg [zI, zU, zF, zI, zU, zS, zV, zN])) [] 4, iJ .mv [.c zF] 5]) (.seq (.ops [iU (.fa 8) 2 10, iU L1 10 11, iU L2 3 12,
 iD (.call 40) 11 12 13, iM 9 13, iU (.ext 0) 9 14, iU (.ext 1) 9 15, iM 6 14, iM 7 15]) (.seq (.seq (.ops [iM 16 7, iU U1 16 17])
 (.ite (.t 17) (.seq (.ops [iJ (.bld [2, 1, 2, 1, 8, 1]) [.c (.agg [zI, zU]), .c zF, .c (.agg [zI, zU]), .c zS, .c zV, .c zN] 18, iO (.sto 15) [.t 4, .t 18], iJ .mv [.c zF] 5]) .ret) .skip))
 (.seq (.ops [iU (.fa 8) 2 19, iU L1 19 20, iM 21 6, iD (.iaS 15) 20 21 22, iU (.ld 15 true) 22 23, iJ (.new (.agg [zI, zU, zF, zI, zU, zS, zV, zN])) [] 8, iO (.sto 15) [.t 8, .t 23]])
 (.seq (.ops [iU (.fa 14) 8 24, iU L1 24 25, iU (.call 41) 25 26, iU (.fa 14) 8 27, iO S1 [.t 27, .t 26]]) (.seq (.ops [iU (.ld 15 true) 8 28, iO (.sto 15) [.t 4, .t 28], iJ .mv [.c zT] 5]) .ret))))))
theorem fn15 : fnOf Tryz.prog 15 = some (29, [.c 4 15 true, .t 5], ir15) := by kernel_rfl
def ir16 : C := (.seq (.ops [iU .box 0 2, iU .box 1 3, iJ (.new (.agg [zI, zU, zF, zI, zU, zS, zV, zN])) [] 4, iJ .mv [.c zF] 5]) (.seq (.seq (.ops [iJ .mv [cI 0] 6])
 (.block 0 (.loop (.seq (.seq (.ops [iM 7 6, iU (.fa 8) 2 8, iU L1 8 9, iU .len 9 10, iD B3 7 10 11]) (.ite (.t 11) .skip (.exit 0))) (.seq (.block 1 (.seq (.any [] [(iU (.fa 8) 2 14, 0, []),
 (iU L1 14 15, 1, []), (iM 16 6, 0, []), (iD (.iaS 15) 15 16 17, 1, []), (iU (.fa 0) 17 18, 0, []), (iU L2 18 19, 1, []), (iU L2 3 20, 1, []),
 (iD (.eqv false [.int .i64, .int .u32]) 19 20 21, 0, [])]) (.ite (.t 21) (.seq (.ops [iU (.fa 8) 2 22, iU L1 22 23, iM 24 6, iD (.iaS 15) 23 24 25, iU (.ld 15 true) 25 26, iO (.sto 15) [.t 4, .t 26],
 iJ .mv [.c zT] 5]) .ret) .skip))) (.ops [iM 12 6, iJ B2 [.t 12, cI 1] 13, iM 6 13]))))))
 (.seq (.ops [iJ (.bld [2, 1, 2, 1, 8, 1]) [.c (.agg [zI, zU]), .c zF, .c (.agg [zI, zU]), .c zS, .c zV, .c zN] 27, iO (.sto 15) [.t 4, .t 27], iJ .mv [.c zF] 5]) .ret)))
theorem fn16 : fnOf Tryz.prog 16 = some (28, [.c 4 15 true, .t 5], ir16) := by kernel_rfl
def ir17 : C := (.seq (.ops [iU .box 0 1, iJ (.new (.agg [zV, zN, zN, zW, zX])) [] 2]) (.seq (.ops [iU (.ld 26 true) 1 6, iJ (.new (.agg [zV, zN, zN, zW, zX])) [] 3, iO (.sto 26) [.t 3, .t 6]])
 (.seq (.ops [iU (.fa 9) 1 7, iU L1 7 8, iU (.call 42) 8 9, iU (.fa 9) 3 10, iO S1 [.t 10, .t 9]]) (.seq (.ops [iU (.fa 8) 3 11, iO S1 [.t 11, .c zN]]) (.seq (.seq (.ops [iU (.fa 8) 1 12, iU L1 12 13,
 iU .len 13 14, iJ .mv [cI 0] 15]) (.block 0 (.loop (.seq (.ops [iD B3 15 14 16]) (.seq (.ite (.t 16) .skip (.exit 0)) (.seq (.block 1 (.seq (.ops [iD (.iaS 15) 13 15 17, iU (.ld 15 true) 17 18,
 iJ (.new (.agg [zI, zU, zF, zI, zU, zS, zV, zN])) [] 5, iO (.sto 15) [.t 5, .t 18]]) (.seq (.ops [iU (.fa 14) 5 19, iU L1 19 20, iU (.call 41) 20 21, iU (.fa 14) 5 22, iO S1 [.t 22, .t 21]])
 (.ops [iU (.fa 8) 3 23, iU L1 23 24, iU (.ld 15 true) 5 25, iU (.bsl 15) 25 26, iD (.app 15 112) 24 26 27, iU (.fa 8) 3 28, iO S1 [.t 28, .t 27]])))) (.ops [iJ B2 [.t 15, cI 1] 29, iM 15 29])))))))
 (.seq (.ops [iU (.ld 26 true) 3 30, iO (.sto 26) [.t 2, .t 30]]) .ret))))))
theorem fn17 : fnOf Tryz.prog 17 = some (31, [.c 2 26 true], ir17) := by kernel_rfl
def ir18 : C := (.seq (.ops [iU .box 0 2, iU .box 1 3, iJ .mv [.c zF] 4]) (.seq (.ops [iU (.fa 0) 2 5, iU L8 5 6, iU (.fa 0) 3 7, iU L8 7 8,
 iD (.eqv false [.int .u32, .int .u32, .int .u32, .int .u32, .int .u32, .int .u32, .int .u32, .int .u32]) 6 8 9, iM 10 9, iV (.fa 10) 2 11 10 true, iV L8 11 12 10 true, iV (.fa 10) 3 13 10 true,
 iV L8 13 14 10 true, iG (.eqv false [.int .i64, .int .i64, .int .i64, .int .i64, .int .i64, .int .i64, .int .i64, .int .i64]) [.t 12, .t 14] 15 10 true, iJ .pick [.t 10, .t 15, .c zF] 16, iM 17 16,
 iV (.fa 18) 2 18 17 true, iV L8 18 19 17 true, iV (.fa 18) 3 20 17 true, iV L8 20 21 17 true, iG (.eqv false [.bool, .bool, .bool, .bool, .bool, .bool, .bool, .bool]) [.t 19, .t 21] 22 17 true,
 iJ .pick [.t 17, .t 22, .c zF] 23, iM 24 23, iV (.fa 9) 2 25 24 true, iV L1 25 26 24 true, iV (.fa 9) 3 27 24 true, iV L1 27 28 24 true, iG (.call 43) [.t 26, .t 28] 29 24 true,
 iJ .pick [.t 24, .t 29, .c zF] 30, iM 31 30, iV (.fa 8) 2 32 31 true, iV L1 32 33 31 true, iV (.fa 8) 3 34 31 true, iV L1 34 35 31 true,
 iG (.call 44) [.t 33, .t 35, .c (.fn (.func 45) [])] 36 31 true, iJ .pick [.t 31, .t 36, .c zF] 37, iM 4 37]) .ret))
theorem fn18 : fnOf Tryz.prog 18 = some (38, [.t 4], ir18) := by kernel_rfl
def ir19 : C := (.seq (.ops [iJ .mv [.c zN] 2]) (.seq (.ops [iJ .mv [.c zN] 3]) (.seq (.seq (.ops [iJ .mv [cI 0] 4]) (.block 0 (.loop (.seq (.seq (.ops [iM 5 4, iM 6 0, iU .len 6 7, iD B3 5 7 8])
 (.ite (.t 8) .skip (.exit 0))) (.seq (.block 1 (.seq (.any [12, 17] [(iM 11 3, 0, [12, 17]), (iU (.call 12) 11 12, 1, [12, 17]), (iM 13 0, 0, [12, 17]), (iM 14 4, 0, [12, 17]),
 (iD (.iaS 21) 13 14 15, 1, [12, 17]), (iU (.ld 21 true) 15 16, 1, [12, 17]), (iD (.call 11) 12 16 17, 3, [17]), (iJ B1 [.t 17, cI 0] 18, 0, [12])]) (.ite (.t 18) (.ops [iM 19 3, iM 20 0, iM 21 4,
 iD (.iaS 21) 20 21 22, iU (.ld 21 true) 22 23, iU (.bsl 21) 23 24, iD (.app 21 184) 19 24 25, iM 3 25]) .skip))) (.ops [iM 9 4, iJ B2 [.t 9, cI 1] 10, iM 4 10])))))) (.seq (.ops [iM 26 3, iM 2 26])
 .ret))))
theorem fn19 : fnOf Tryz.prog 19 = some (27, [.t 2], ir19) := by kernel_rfl
def ir20 : C := (.seq (.ops [iU .box 0 2, iU .box 1 3, iJ (.new zV) [] 4]) (.seq (.any [7, 8] [(iU L8 2 5, 1, [7, 8]), (iU L2 3 6, 1, [7, 8]), (iU (.call 48) 6 7, 1, [7, 8]),
 (iD (.call 47) 5 7 8, 3, [8]), (iO (.sto 8) [.t 4, .t 8], 2, [])]) .ret))
theorem fn20 : fnOf Tryz.prog 20 = some (9, [.c 4 8 true], ir20) := by kernel_rfl
def ir21 : C := (.seq (.ops [iU .box 0 2, iU .box 1 3, iJ .mv [.c zF] 4]) (.seq (.any [12] [(iU (.fa 1) 3 5, 0, [12]), (iU L1 5 6, 1, [12]), (iJ B4 [.t 6, .c zU] 7, 0, [12]), (iM 8 7, 0, [12]),
 (iV L8 2 9 8 true, 1, [12]), (iV (.fa 0) 3 10 8 true, 0, [12]), (iV L1 10 11 8 true, 1, [12]), (iG (.call 32) [.t 9, .t 11] 12 8 true, 1, [12]), (iV (.fa 1) 3 13 8 true, 0, [12]),
 (iV L1 13 14 8 true, 1, [12]), (iG B8 [.t 12, .t 14] 15 8 true, 0, []), (iJ .pick [.t 8, .t 15, .c zF] 16, 0, [12]), (iM 4 16, 0, [])]) .ret))
theorem fn21 : fnOf Tryz.prog 21 = some (17, [.t 4], ir21) := by kernel_rfl
def ir22 : C := (.seq (.ops [iU .box 0 2, iU .box 1 3, iJ .mv [.c zF] 4]) (.seq (.ops [iU L8 2 5, iU L8 3 6, iD (.call 49) 5 6 7, iJ B7 [.t 7, cI 0] 8, iM 4 8]) .ret))
theorem fn22 : fnOf Tryz.prog 22 = some (9, [.t 4], ir22) := by kernel_rfl
def ir25 : C := (.seq (.ops [iU .box 0 1, iJ .mv [.c zF] 2]) (.seq (.seq (.any [37] [(iU (.fa 0) 1 9, 0, [37]), (iU (.fa 0) 9 10, 0, [37]), (iU L1 10 11, 1, [37]), (iJ B3 [.t 11, cI 1] 12, 0, [37]),
 (iM 13 12, 0, [37]), (iV (.fa 0) 1 14 13 false, 0, [37]), (iV (.fa 0) 14 15 13 false, 0, [37]), (iV L1 15 16 13 false, 1, [37]), (iG B4 [.t 16, cI 8] 17 13 false, 0, [37]),
 (iJ .pick [.t 13, .c zT, .t 17] 18, 0, [37]), (iM 19 18, 0, [37]), (iV (.fa 0) 1 20 19 false, 0, [37]), (iV (.fa 1) 20 21 19 false, 0, [37]), (iV L1 21 22 19 false, 1, [37]),
 (iG B3 [.t 22, .c (.pv (.i .u32 1))] 23 19 false, 0, [37]), (iJ .pick [.t 19, .c zT, .t 23] 24, 0, [37]), (iM 25 24, 0, [37]), (iV (.fa 0) 1 26 25 false, 0, [37]),
 (iV (.fa 1) 26 27 25 false, 0, [37]), (iV L1 27 28 25 false, 1, [37]), (iG B4 [.t 28, .c (.pv (.i .u32 1048576))] 29 25 false, 0, [37]), (iJ .pick [.t 25, .c zT, .t 29] 30, 0, [37]),
 (iM 31 30, 0, [37]), (iV (.fa 2) 1 32 31 false, 0, [37]), (iV L8 32 33 31 false, 1, [37]), (iV (.fa 0) 1 34 31 false, 0, [37]), (iV (.fa 0) 34 35 31 false, 0, [37]), (iV L1 35 36 31 false, 1, [37]),
 (iG (.call 32) [.t 33, .t 36] 37 31 false, 1, [37]), (iG B2 [.t 37, .c (.pv (.i .u32 1))] 38 31 false, 0, []), (iV (.fa 0) 1 39 31 false, 0, [37]), (iV (.fa 1) 39 40 31 false, 0, [37]),
 (iV L1 40 41 31 false, 1, [37]), (iG B6 [.t 38, .t 41] 42 31 false, 0, [37]), (iJ .pick [.t 31, .c zT, .t 42] 43, 0, [37])]) (.ite (.t 43) (.seq (.ops [iJ .mv [.c zF] 2]) .ret) .skip))
 (.seq (.seq (.ops [iJ .mv [cI 0] 3]) (.block 0 (.loop (.seq (.seq (.ops [iM 44 3, iJ B3 [.t 44, cI 8] 45]) (.ite (.t 45) .skip (.exit 0))) (.seq (.block 1 (.seq (.ops [iM 48 3, iU (.fa 2) 1 49,
 iD (.iaA 8 1) 49 48 50, iU L1 50 51, iJ B4 [.t 51, .c (.pv (.i .u32 1048576))] 52]) (.ite (.t 52) (.seq (.ops [iJ .mv [.c zF] 2]) .ret) .skip))) (.ops [iM 46 3, iJ B2 [.t 46, cI 1] 47, iM 3 47]))))))
 (.seq (.any [57, 60, 66] [(iU (.fa 2) 1 53, 0, [57, 60, 66]), (iU L8 53 54, 1, [57, 60, 66]), (iU (.fa 11) 1 55, 0, [57, 60, 66]), (iU L2 55 56, 1, [57, 60, 66]),
 (iD (.call 21) 54 56 57, 1, [57, 60, 66]), (iU (.fa 13) 1 58, 0, [57, 60, 66]), (iU L2 58 59, 1, [57, 60, 66]), (iU (.call 61) 59 60, 3, [60, 66]), (iM 61 60, 0, [57, 66]),
 (iV (.fa 2) 1 62 61 false, 0, [57, 60, 66]), (iV L8 62 63 61 false, 1, [57, 60, 66]), (iV (.fa 13) 1 64 61 false, 0, [57, 60, 66]), (iV L2 64 65 61 false, 1, [57, 60, 66]),
 (iG (.call 21) [.t 63, .t 65] 66 61 false, 3, [57, 60, 66]), (iJ .pick [.t 61, .c zT, .t 66] 67, 0, [57, 60]), (iM 4 57, 0, [60]), (iM 5 67, 0, [])])
 (.seq (.any [77, 83] [(iU (.fa 16) 1 68, 0, [77, 83]), (iU L1 68 69, 1, [77, 83]), (iU .len 69 70, 1, [77, 83]), (iJ B7 [.t 70, cI 8] 71, 0, [77, 83]), (iM 72 71, 0, [77, 83]),
 (iV (.fa 16) 1 73 72 true, 0, [77, 83]), (iV L1 73 74 72 true, 1, [77, 83]), (iV (.fa 2) 1 75 72 true, 0, [77, 83]), (iV L8 75 76 72 true, 1, [77, 83]),
 (iG (.call 62) [.t 74, .t 76] 77 72 true, 1, [77, 83]), (iJ .pick [.t 72, .t 77, .c zF] 78, 0, [83]), (iU (.fa 17) 1 79, 0, [77, 83]), (iU L1 79 80, 1, [77, 83]), (iU (.fa 2) 1 81, 0, [77, 83]),
 (iU L8 81 82, 1, [77, 83]), (iD (.call 62) 80 82 83, 2, [83]), (iM 6 78, 0, []), (iM 7 83, 0, [])]) (.seq (.ops [iU (.fa 18) 1 84, iU L1 84 85, iJ B8 [.t 85, cI 0] 86, iM 87 86,
 iV (.fa 18) 1 88 87 true, iV L1 88 89 87 true, iG B7 [.t 89, cI 200] 90 87 true, iJ .pick [.t 87, .t 90, .c zF] 91, iM 8 91]) (.seq (.seq (.ops [iU (.fa 10) 1 92, iU L1 92 93])
 (.block 2 (.seq (.seq (.ops [iJ B1 [.t 93, cI 1] 95, iM 94 95]) (.ite (.t 94) .skip (.ops [iJ B1 [.t 93, cI 2] 96, iM 94 96]))) (.ite (.t 94) (.seq (.ops [iM 97 5, iM 98 97, iV (.fa 15) 1 99 98 true,
 iV L1 99 100 98 true, iV (.call 63) 100 101 98 true, iJ .pick [.t 98, .t 101, .c zF] 102, iM 103 102, iV (.ld 21 true) 1 104 103 true,
 iG (.call 64) [.t 104, .c zF, .c zT, .c zF, .c zF, .c zF, .c zF, .c zF] 105 103 true, iJ .pick [.t 103, .t 105, .c zF] 106, iM 2 106]) .ret) (.seq (.ops [iJ B1 [.t 93, cI 3] 108, iM 107 108])
 (.ite (.t 107) (.seq (.ops [iM 109 4, iM 110 109, iV .mv 7 111 110 true, iJ .pick [.t 110, .t 111, .c zF] 112, iM 113 112, iV (.fa 17) 1 114 113 true, iV L1 114 115 113 true,
 iV .len 115 116 113 true, iG B7 [.t 116, cI 1] 117 113 true, iJ .pick [.t 113, .t 117, .c zF] 118, iM 119 118, iV .mv 8 120 119 true, iJ .pick [.t 119, .t 120, .c zF] 121, iM 122 121,
 iV (.fa 19) 1 123 122 true, iV L1 123 124 122 true, iG B6 [.t 124, .c zS] 125 122 true, iJ .pick [.t 122, .t 125, .c zF] 126, iM 127 126, iV (.fa 19) 1 128 127 true, iV L1 128 129 127 true,
 iV .lenS 129 130 127 true, iV (.fa 18) 1 131 127 true, iV L1 131 132 127 true, iG B5 [cI 200, .t 132] 133 127 true, iG B7 [.t 130, .t 133] 134 127 true, iJ .pick [.t 127, .t 134, .c zF] 135,
 iM 136 135, iV (.ld 21 true) 1 137 136 true, iG (.call 64) [.t 137, .c zT, .c zF, .c zF, .c zT, .c zT, .c zT, .c zF] 138 136 true, iJ .pick [.t 136, .t 138, .c zF] 139, iM 2 139]) .ret)
 (.seq (.ops [iJ B1 [.t 93, cI 4] 141, iM 140 141]) (.ite (.t 140) (.seq (.ops [iM 142 4, iM 143 142, iV .mv 7 144 143 true, iJ .pick [.t 143, .t 144, .c zF] 145, iM 146 145,
 iV (.fa 17) 1 147 146 true, iV L1 147 148 146 true, iV .len 148 149 146 true, iG B7 [.t 149, cI 1] 150 146 true, iJ .pick [.t 146, .t 150, .c zF] 151, iM 152 151, iV .mv 8 153 152 true,
 iJ .pick [.t 152, .t 153, .c zF] 154, iM 155 154, iV (.ld 21 true) 1 156 155 true, iG (.call 64) [.t 156, .c zT, .c zF, .c zF, .c zT, .c zT, .c zF, .c zF] 157 155 true,
 iJ .pick [.t 155, .t 157, .c zF] 158, iM 2 158]) .ret) (.seq (.ops [iJ B1 [.t 93, cI 5] 160, iM 159 160]) (.ite (.t 159) (.seq (.ops [iM 161 4, iM 162 161, iV .mv 7 163 162 true,
 iJ .pick [.t 162, .t 163, .c zF] 164, iM 165 164, iV (.fa 17) 1 166 165 true, iV L1 166 167 165 true, iV .len 167 168 165 true, iG B8 [.t 168, cI 2] 169 165 true,
 iJ .pick [.t 165, .t 169, .c zF] 170, iM 171 170, iV (.fa 17) 1 172 171 true, iV L1 172 173 171 true, iV .len 173 174 171 true, iG B7 [.t 174, cI 8] 175 171 true,
 iJ .pick [.t 171, .t 175, .c zF] 176, iM 177 176, iV (.fa 19) 1 178 177 true, iV L1 178 179 177 true, iV .lenS 179 180 177 true, iG B7 [.t 180, cI 200] 181 177 true,
 iJ .pick [.t 177, .t 181, .c zF] 182, iM 183 182, iV (.ld 21 true) 1 184 183 true, iG (.call 64) [.t 184, .c zT, .c zF, .c zF, .c zT, .c zF, .c zT, .c zF] 185 183 true,
 iJ .pick [.t 183, .t 185, .c zF] 186, iM 2 186]) .ret) (.seq (.ops [iJ B1 [.t 93, cI 6] 188, iM 187 188]) (.ite (.t 187) (.seq (.ops [iM 189 4, iM 190 189, iV .mv 6 191 190 true,
 iJ .pick [.t 190, .t 191, .c zF] 192, iM 193 192, iV (.ld 21 true) 1 194 193 true, iG (.call 64) [.t 194, .c zT, .c zF, .c zT, .c zF, .c zF, .c zF, .c zF] 195 193 true,
 iJ .pick [.t 193, .t 195, .c zF] 196, iM 2 196]) .ret) (.seq (.ops [iJ B1 [.t 93, cI 7] 198, iM 197 198]) (.ite (.t 197) (.seq (.ops [iM 199 4, iM 200 199, iV .mv 6 201 200 true,
 iJ .pick [.t 200, .t 201, .c zF] 202, iM 203 202, iV .mv 5 204 203 true, iJ .pick [.t 203, .t 204, .c zF] 205, iM 206 205, iV (.fa 15) 1 207 206 true, iV L1 207 208 206 true,
 iV (.call 63) 208 209 206 true, iJ .pick [.t 206, .t 209, .c zF] 210, iM 211 210, iV (.ld 21 true) 1 212 211 true,
 iG (.call 64) [.t 212, .c zT, .c zT, .c zT, .c zF, .c zF, .c zF, .c zF] 213 211 true, iJ .pick [.t 211, .t 213, .c zF] 214, iM 2 214]) .ret) (.seq (.ops [iJ B1 [.t 93, cI 8] 216, iM 215 216])
 (.ite (.t 215) (.seq (.ops [iU (.fa 20) 1 217, iU L1 217 218, iJ B8 [.t 218, cI 1] 219, iM 220 219, iV (.fa 20) 1 221 220 true, iV L1 221 222 220 true, iG B7 [.t 222, cI 4] 223 220 true,
 iJ .pick [.t 220, .t 223, .c zF] 224, iM 225 224, iV (.ld 21 true) 1 226 225 true, iG (.call 64) [.t 226, .c zF, .c zF, .c zF, .c zF, .c zF, .c zF, .c zT] 227 225 true,
 iJ .pick [.t 225, .t 227, .c zF] 228, iM 2 228]) .ret) (.seq (.ops [iJ B1 [.t 93, cI 9] 230, iM 229 230]) (.ite (.t 229) (.seq (.ops [iU (.ld 21 true) 1 231,
 iJ (.call 64) [.t 231, .c zF, .c zF, .c zF, .c zF, .c zF, .c zF, .c zF] 232, iM 2 232]) .ret) .skip)))))))))))))))))) (.seq (.ops [iJ .mv [.c zF] 2]) .ret))))))))
theorem fn25 : fnOf Tryz.prog 25 = some (233, [.t 2], ir25) := by kernel_rfl
def ir26 : C := (.seq (.ops [iU .box 0 2, iU .box 1 3, iJ .mv [cI 0] 4]) (.seq (.seq (.ops [iU L2 3 7, iU (.call 65) 7 8]) (.ite (.t 8) (.seq (.ops [iJ .mv [cI 0] 4]) .ret) .skip))
 (.seq (.ops [iU (.ld 26 true) 2 10, iU L2 3 11, iD (.call 16) 10 11 12, iM 9 12, iU (.ext 0) 9 13, iU (.ext 1) 9 14, iJ (.new (.agg [zI, zU, zF, zI, zU, zS, zV, zN])) [] 5,
 iO (.sto 15) [.t 5, .t 13], iM 6 14]) (.seq (.seq (.ops [iM 15 6, iU U1 15 16]) (.ite (.t 16) (.seq (.ops [iJ .mv [cI 2] 4]) .ret) .skip)) (.seq (.seq (.ops [iU (.fa 2) 5 17, iU L1 17 18,
 iU U1 18 19]) (.ite (.t 19) (.seq (.ops [iJ .mv [cI 22] 4]) .ret) .skip)) (.seq (.ops [iJ .mv [cI 0] 4]) .ret))))))
theorem fn26 : fnOf Tryz.prog 26 = some (20, [.t 4], ir26) := by kernel_rfl
def ir27 : C := (.seq (.ops [iU .box 1 3, iJ .mv [.c zS] 4, iJ .mv [cI 0] 5]) (.seq (.seq (.ops [iU (.fa 0) 3 7, iU L1 7 8, iJ B1 [.t 8, cI 0] 9, iM 10 9, iV (.fa 1) 3 11 10 true, iV L1 11 12 10 true,
 iG B1 [.t 12, .c zU] 13 10 true, iJ .pick [.t 10, .t 13, .c zF] 14]) (.ite (.t 14) (.seq (.ops [iJ .mv [.c zS] 4, iJ .mv [cI 0] 5]) .ret) .skip)) (.seq (.seq (.ops [iJ .mv [cI 0] 6])
 (.block 0 (.loop (.seq (.seq (.ops [iM 15 6, iM 16 0, iU .len 16 17, iD B3 15 17 18]) (.ite (.t 18) .skip (.exit 0))) (.seq (.block 1 (.seq (.any [] [(iM 21 0, 0, []), (iM 22 6, 0, []),
 (iD (.iaS 11) 21 22 23, 1, []), (iU (.fa 0) 23 24, 0, []), (iU L2 24 25, 1, []), (iU L2 3 26, 1, []), (iD (.eqv false [.int .i64, .int .u32]) 25 26 27, 0, [])]) (.ite (.t 27) (.seq (.ops [iM 28 0,
 iM 29 6, iD (.iaS 11) 28 29 30, iU (.fa 2) 30 31, iU L1 31 32, iM 4 32, iJ .mv [cI 0] 5]) .ret) .skip))) (.ops [iM 19 6, iJ B2 [.t 19, cI 1] 20, iM 6 20])))))) (.seq (.ops [iJ .mv [.c zS] 4,
 iJ .mv [cI 2] 5]) .ret))))
theorem fn27 : fnOf Tryz.prog 27 = some (33, [.t 4, .t 5], ir27) := by kernel_rfl
def ir28 : C := (.seq (.ops [iJ (.new zV) [] 2]) (.seq (.ops [iJ (.bldV 8 1) [.c zU, .c zU, .c zU, .c zU, .c zU, .c zU, .c zU, .c zU] 5, iJ (.new zV) [] 3, iO (.sto 8) [.t 3, .t 5]])
 (.seq (.seq (.ops [iJ .mv [cI 0] 4]) (.block 0 (.loop (.seq (.seq (.ops [iM 6 4, iM 7 0, iU .len 7 8, iD B3 6 8 9]) (.ite (.t 9) .skip (.exit 0))) (.seq (.block 1 (.any [18] [(iU L8 3 12, 1, [18]),
 (iM 13 0, 0, [18]), (iM 14 4, 0, [18]), (iD (.iaS 21) 13 14 15, 1, [18]), (iU (.fa 0) 15 16, 0, [18]), (iU L2 16 17, 1, [18]), (iD (.call 20) 12 17 18, 3, [18]), (iO (.sto 8) [.t 3, .t 18], 2, [])]))
 (.ops [iM 10 4, iJ B2 [.t 10, cI 1] 11, iM 4 11])))))) (.seq (.ops [iU L8 3 19, iO (.sto 8) [.t 2, .t 19]]) .ret))))
theorem fn28 : fnOf Tryz.prog 28 = some (20, [.c 2 8 true], ir28) := by kernel_rfl
def ir29 : C := (.seq (.ops [iJ .mv [.c zN] 2]) (.seq (.ops [iJ .mv [.c zN] 3]) (.seq (.seq (.ops [iJ .mv [cI 0] 4]) (.block 0 (.loop (.seq (.seq (.ops [iM 9 4, iM 10 0, iU .len 10 11, iD B3 9 11 12])
 (.ite (.t 12) .skip (.exit 0))) (.seq (.block 1 (.seq (.ops [iM 15 0, iM 16 4, iD (.iaS 21) 15 16 17, iU (.ld 21 true) 17 18,
 iJ (.new (.agg [zI, zU, zV, zI, zI, zU, zI, zU, zS, zN, zN, zI, zS, zI])) [] 5, iO (.sto 21) [.t 5, .t 18]]) (.seq (.seq (.ops [iU (.fa 10) 5 19, iU L1 19 20, iJ B6 [.t 20, cI 1] 21, iM 22 21,
 iV (.fa 10) 5 23 22 true, iV L1 23 24 22 true, iG B6 [.t 24, cI 2] 25 22 true, iJ .pick [.t 22, .t 25, .c zF] 26, iM 27 26, iV (.fa 10) 5 28 27 true, iV L1 28 29 27 true,
 iG B6 [.t 29, cI 7] 30 27 true, iJ .pick [.t 27, .t 30, .c zF] 31]) (.ite (.t 31) (.exit 1) .skip)) (.seq (.ops [iU (.fa 0) 5 32, iU L2 32 33, iU (.fa 13) 5 34, iU L2 34 35, iU (.fa 15) 5 36,
 iU L1 36 37, iU (.fa 0) 5 38, iU L2 38 39, iJ (.bld [2, 2, 1, 2, 8]) [.t 33, .t 35, .t 37, .t 39, .c zV] 40, iJ (.new (.agg [zI, zU, zI, zU, zS, zI, zU, zV])) [] 6, iO (.sto 15) [.t 6, .t 40]])
 (.seq (.seq (.ops [iU (.fa 10) 5 41, iU L1 41 42, iJ B1 [.t 42, cI 7] 43]) (.ite (.t 43) (.ops [iU (.fa 11) 5 44, iU L2 44 45, iU (.fa 5) 6 46, iO (.sto 2) [.t 46, .t 45]]) .skip))
 (.seq (.seq (.ops [iJ .mv [cI 0] 7]) (.block 2 (.loop (.seq (.seq (.ops [iM 47 7, iM 48 0, iU .len 48 49, iD B3 47 49 50]) (.ite (.t 50) .skip (.exit 2))) (.seq (.block 3 (.seq (.ops [iM 53 0,
 iM 54 7, iD (.iaS 21) 53 54 55, iU (.fa 10) 55 56, iU L1 56 57, iJ B1 [.t 57, cI 6] 58, iM 59 58, iV .mv 0 60 59 false, iV .mv 7 61 59 false, iG (.iaS 21) [.t 60, .t 61] 62 59 false,
 iV (.fa 10) 62 63 59 false, iV L1 63 64 59 false, iG B1 [.t 64, cI 7] 65 59 false, iJ .pick [.t 59, .c zT, .t 65] 66, iM 8 66]) (.seq (.any [86] [(iM 67 8, 0, [86]), (iM 68 67, 0, [86]),
 (iV .mv 0 69 68 true, 0, [86]), (iV .mv 7 70 68 true, 0, [86]), (iG (.iaS 21) [.t 69, .t 70] 71 68 true, 1, [86]), (iV (.fa 11) 71 72 68 true, 0, [86]), (iV L2 72 73 68 true, 1, [86]),
 (iV (.fa 5) 6 74 68 true, 0, [86]), (iV L2 74 75 68 true, 1, [86]), (iG (.eqv false [.int .i64, .int .u32]) [.t 73, .t 75] 76 68 true, 0, [86]), (iJ .pick [.t 68, .t 76, .c zF] 77, 0, [86]),
 (iM 78 77, 0, [86]), (iV .mv 0 79 78 true, 0, [86]), (iV .mv 7 80 78 true, 0, [86]), (iG (.iaS 21) [.t 79, .t 80] 81 78 true, 1, [86]), (iV (.fa 16) 81 82 78 true, 0, [86]),
 (iV L1 82 83 78 true, 1, [86]), (iV (.fa 0) 6 84 78 true, 0, [86]), (iV L2 84 85 78 true, 1, [86]), (iG (.call 66) [.t 83, .t 85] 86 78 true, 2, [86]), (iJ .pick [.t 78, .t 86, .c zF] 87, 0, [])])
 (.ite (.t 87) (.any [95] [(iU (.fa 7) 6 88, 0, [95]), (iU L8 88 89, 1, [95]), (iM 90 0, 0, [95]), (iM 91 7, 0, [95]), (iD (.iaS 21) 90 91 92, 1, [95]), (iU (.fa 0) 92 93, 0, [95]),
 (iU L2 93 94, 1, [95]), (iD (.call 20) 89 94 95, 3, [95]), (iU (.fa 7) 6 96, 0, []), (iO (.sto 8) [.t 96, .t 95], 2, [])]) .skip)))) (.ops [iM 51 7, iJ B2 [.t 51, cI 1] 52, iM 7 52]))))))
 (.ops [iM 97 3, iU (.ld 15 true) 6 98, iD (.call 67) 97 98 99, iM 3 99]))))))) (.ops [iM 13 4, iJ B2 [.t 13, cI 1] 14, iM 4 14])))))) (.seq (.ops [iM 100 3, iM 2 100]) .ret))))
theorem fn29 : fnOf Tryz.prog 29 = some (101, [.t 2], ir29) := by kernel_rfl
def ir30 : C := (.seq (.ops [iU .box 1 3, iJ (.new (.agg [zI, zU, zF, zI, zU, zS, zV, zN])) [] 4]) (.seq (.any [19, 5] [(iU (.fa 0) 3 7, 0, [19, 5]), (iU L2 7 8, 1, [19, 5]),
 (iU (.fa 10) 3 9, 0, [19, 5]), (iU L1 9 10, 1, [19, 5]), (iJ B1 [.t 10, cI 2] 11, 0, [19, 5]), (iU (.fa 0) 3 12, 0, [19, 5]), (iU L2 12 13, 1, [19, 5]), (iU (.fa 15) 3 14, 0, [19, 5]),
 (iU L1 14 15, 1, [19, 5]), (iM 16 0, 0, [19, 5]), (iU (.fa 0) 3 17, 0, [19, 5]), (iU L2 17 18, 1, [19, 5]), (iD (.call 68) 16 18 19, 1, [19, 5]),
 (iJ (.bld [2, 1, 2, 1, 8, 1]) [.t 8, .t 11, .t 13, .t 15, .c zV, .t 19] 20, 0, [5]), (iJ (.new (.agg [zI, zU, zF, zI, zU, zS, zV, zN])) [] 5, 1, [19, 5]), (iO (.sto 15) [.t 5, .t 20], 2, [])])
 (.seq (.seq (.ops [iJ .mv [cI 0] 6]) (.block 0 (.loop (.seq (.seq (.ops [iM 21 6, iM 22 0, iU .len 22 23, iD B3 21 23 24]) (.ite (.t 24) .skip (.exit 0)))
 (.seq (.block 1 (.seq (.seq (.any [] [(iM 27 0, 0, []), (iM 28 6, 0, []), (iD (.iaS 21) 27 28 29, 1, []), (iU (.fa 11) 29 30, 0, []), (iU L2 30 31, 1, []), (iU (.fa 0) 3 32, 0, []),
 (iU L2 32 33, 1, []), (iD (.eqv true [.int .i64, .int .u32]) 31 33 34, 0, [])]) (.ite (.t 34) (.exit 1) .skip)) (.seq (.seq (.any [49] [(iM 35 0, 0, [49]), (iM 36 6, 0, [49]),
 (iD (.iaS 21) 35 36 37, 1, [49]), (iU (.fa 10) 37 38, 0, [49]), (iU L1 38 39, 1, [49]), (iJ B1 [.t 39, cI 7] 40, 0, [49]), (iM 41 40, 0, [49]), (iV (.fa 3) 5 42 41 true, 0, [49]),
 (iV L2 42 43 41 true, 1, [49]), (iV .mv 0 44 41 true, 0, [49]), (iV .mv 6 45 41 true, 0, [49]), (iG (.iaS 21) [.t 44, .t 45] 46 41 true, 1, [49]), (iV (.fa 0) 46 47 41 true, 0, [49]),
 (iV L2 47 48 41 true, 1, [49]), (iG (.call 31) [.t 43, .t 48] 49 41 true, 3, [49]), (iJ .pick [.t 41, .t 49, .c zF] 50, 0, [])]) (.ite (.t 50) (.anyP [] [(iM 51 0, 0, [], [], 0),
 (iM 52 6, 0, [], [], 1), (iD (.iaS 21) 51 52 53, 1, [], [], 2), (iU (.fa 0) 53 54, 0, [], [], 3), (iU L2 54 55, 1, [], [], 4), (iM 56 0, 0, [], [], 5), (iM 57 6, 0, [], [], 6),
 (iD (.iaS 21) 56 57 58, 1, [], [], 7), (iU (.fa 15) 58 59, 0, [], [], 8), (iU L1 59 60, 1, [], [], 9), (iU (.fa 3) 5 61, 0, [], [], 10), (iO (.sto 2) [.t 61, .t 55], 2, [], [7, 9], 11),
 (iU (.fa 5) 5 62, 0, [], [], 12), (iO S1 [.t 62, .t 60], 2, [], [], 13)]) .skip)) (.seq (.ops [iM 63 0, iM 64 6, iD (.iaS 21) 63 64 65, iU (.fa 10) 65 66, iU L1 66 67, iJ B1 [.t 67, cI 6] 68])
 (.ite (.t 68) (.any [81, 82] [(iU (.fa 6) 5 69, 0, [81, 82]), (iU L8 69 70, 1, [81, 82]), (iM 71 0, 0, [81, 82]), (iM 72 6, 0, [81, 82]), (iD (.iaS 21) 71 72 73, 1, [81, 82]),
 (iU (.fa 2) 73 74, 0, [81, 82]), (iU L8 74 75, 1, [81, 82]), (iM 76 0, 0, [81, 82]), (iM 77 6, 0, [81, 82]), (iD (.iaS 21) 76 77 78, 1, [81, 82]), (iU (.fa 0) 78 79, 0, [81, 82]),
 (iU L2 79 80, 1, [81, 82]), (iD (.call 20) 75 80 81, 1, [81, 82]), (iD (.call 47) 70 81 82, 3, [82]), (iU (.fa 6) 5 83, 0, []), (iO (.sto 8) [.t 83, .t 82], 2, [])]) .skip))))) (.ops [iM 25 6,
 iJ B2 [.t 25, cI 1] 26, iM 6 26])))))) (.seq (.ops [iU (.ld 15 true) 5 84, iO (.sto 15) [.t 4, .t 84]]) .ret))))
theorem fn30 : fnOf Tryz.prog 30 = some (85, [.c 4 15 true], ir30) := by kernel_rfl
def ir31 : C := (.seq (.ops [iU .box 0 2, iU .box 1 3, iJ .mv [.c zF] 4]) (.seq (.ops [iU (.fa 1) 2 5, iU L1 5 6, iU (.fa 1) 3 7, iU L1 7 8, iD B3 6 8 9, iM 10 9, iV (.fa 1) 2 11 10 false,
 iV L1 11 12 10 false, iV (.fa 1) 3 13 10 false, iV L1 13 14 10 false, iG B1 [.t 12, .t 14] 15 10 false, iV .mv 15 16 10 false, iV (.fa 0) 2 17 16 true, iV L1 17 18 16 true, iV (.fa 0) 3 19 16 true,
 iV L1 19 20 16 true, iG B3 [.t 18, .t 20] 21 16 true, iG .pick [.t 16, .t 21, .c zF] 22 10 false, iJ .pick [.t 10, .c zT, .t 22] 23, iM 4 23]) .ret))
theorem fn31 : fnOf Tryz.prog 31 = some (24, [.t 4], ir31) := by kernel_rfl
def ir32 : C := (.seq (.ops [iU .box 0 2, iJ .mv [.c zU] 4]) (.seq (.seq (.ops [iJ .mv [cI 0] 5]) (.block 0 (.loop (.seq (.seq (.ops [iM 6 5, iJ B3 [.t 6, cI 8] 7]) (.ite (.t 7) .skip (.exit 0)))
 (.seq (.block 1 (.seq (.ops [iM 10 5, iJ B2 [.t 10, cI 1] 11, iM 12 1, iD B1 11 12 13]) (.ite (.t 13) (.seq (.ops [iM 14 5, iD (.iaA 8 1) 2 14 15, iU L1 15 16, iM 4 16]) .ret) .skip))) (.ops [iM 8 5,
 iJ B2 [.t 8, cI 1] 9, iM 5 9])))))) (.seq (.ops [iJ .mv [.c zU] 4]) .ret)))
theorem fn32 : fnOf Tryz.prog 32 = some (17, [.t 4], ir32) := by kernel_rfl
def ir33 : C := (.seq (.ops [iU .box 0 1, iJ .mv [.c zF] 2]) (.seq (.seq (.any [] [(iU (.fa 0) 1 7, 0, []), (iU (.fa 0) 7 8, 0, []), (iU L1 8 9, 1, []), (iJ B3 [.t 9, cI 1] 10, 0, []),
 (iM 11 10, 0, []), (iV (.fa 0) 1 12 11 false, 0, []), (iV (.fa 0) 12 13 11 false, 0, []), (iV L1 13 14 11 false, 1, []), (iG B4 [.t 14, cI 8] 15 11 false, 0, []),
 (iJ .pick [.t 11, .c zT, .t 15] 16, 0, []), (iM 17 16, 0, []), (iV (.fa 0) 1 18 17 false, 0, []), (iV (.fa 1) 18 19 17 false, 0, []), (iV L1 19 20 17 false, 1, []),
 (iG B3 [.t 20, .c (.pv (.i .u32 1))] 21 17 false, 0, []), (iJ .pick [.t 17, .c zT, .t 21] 22, 0, []), (iM 23 22, 0, []), (iV (.fa 0) 1 24 23 false, 0, []), (iV (.fa 1) 24 25 23 false, 0, []),
 (iV L1 25 26 23 false, 1, []), (iG B4 [.t 26, .c (.pv (.i .u32 1048576))] 27 23 false, 0, []), (iJ .pick [.t 23, .c zT, .t 27] 28, 0, []), (iM 29 28, 0, []), (iV (.fa 0) 1 30 29 false, 0, []),
 (iV (.fa 0) 30 31 29 false, 0, []), (iV L1 31 32 29 false, 1, []), (iG B5 [.t 32, cI 1] 33 29 false, 0, []), (iV (.fa 2) 1 34 29 false, 0, []), (iG (.iaA 8 1) [.t 34, .t 33] 35 29 false, 0, []),
 (iV L1 35 36 29 false, 1, []), (iV (.fa 0) 1 37 29 false, 0, []), (iV (.fa 1) 37 38 29 false, 0, []), (iV L1 38 39 29 false, 1, []), (iG B5 [.t 39, .c (.pv (.i .u32 1))] 40 29 false, 0, []),
 (iG B6 [.t 36, .t 40] 41 29 false, 0, []), (iJ .pick [.t 29, .c zT, .t 41] 42, 0, []), (iM 43 42, 0, []), (iV (.fa 10) 1 44 43 false, 0, []), (iV L1 44 45 43 false, 1, []),
 (iG B3 [.t 45, cI 1] 46 43 false, 0, []), (iJ .pick [.t 43, .c zT, .t 46] 47, 0, []), (iM 48 47, 0, []), (iV (.fa 10) 1 49 48 false, 0, []), (iV L1 49 50 48 false, 1, []),
 (iG B4 [.t 50, cI 9] 51 48 false, 0, []), (iJ .pick [.t 48, .c zT, .t 51] 52, 0, [])]) (.ite (.t 52) (.seq (.ops [iJ .mv [.c zF] 2]) .ret) .skip)) (.seq (.seq (.ops [iU (.fa 2) 1 53, iU L8 53 54,
 iJ .mv [cI 0] 55]) (.block 0 (.loop (.seq (.ops [iJ B3 [.t 55, cI 8] 56]) (.seq (.ite (.t 56) .skip (.exit 0)) (.seq (.block 1 (.seq (.ops [iD (.ixA 8 1 false) 54 55 57, iM 4 57])
 (.seq (.ops [iM 58 4, iJ B4 [.t 58, .c (.pv (.i .u32 1048576))] 59]) (.ite (.t 59) (.seq (.ops [iJ .mv [.c zF] 2]) .ret) .skip)))) (.ops [iJ B2 [.t 55, cI 1] 60, iM 55 60])))))))
 (.seq (.ops [iU (.ld 21 true) 1 61, iU (.call 69) 61 62, iJ (.new (.agg [zI, zU, zV, zI, zI, zU, zI, zU, zS, zN, zN, zI, zS, zI])) [] 5, iO (.sto 21) [.t 5, .t 62]])
 (.seq (.seq (.ops [iU (.fa 11) 5 63, iU L2 63 64, iJ (.bld [1, 1]) [cI 0, .c zU] 65, iD (.eqv true [.int .i64, .int .u32]) 64 65 66, iM 67 66, iV (.fa 13) 5 68 67 false, iV L2 68 69 67 false,
 iG (.bld [1, 1]) [cI 0, .c zU] 70 67 false, iG (.eqv true [.int .i64, .int .u32]) [.t 69, .t 70] 71 67 false, iJ .pick [.t 67, .c zT, .t 71] 72, iM 73 72, iV (.fa 15) 5 74 73 false,
 iV L1 74 75 73 false, iG B6 [.t 75, .c zS] 76 73 false, iJ .pick [.t 73, .c zT, .t 76] 77, iM 78 77, iV (.fa 16) 5 79 78 false, iV L1 79 80 78 false, iV .len 80 81 78 false,
 iG B4 [.t 81, cI 0] 82 78 false, iJ .pick [.t 78, .c zT, .t 82] 83, iM 84 83, iV (.fa 17) 5 85 84 false, iV L1 85 86 84 false, iV .len 86 87 84 false, iG B4 [.t 87, cI 0] 88 84 false,
 iJ .pick [.t 84, .c zT, .t 88] 89, iM 90 89, iV (.fa 18) 5 91 90 false, iV L1 91 92 90 false, iG B6 [.t 92, cI 0] 93 90 false, iJ .pick [.t 90, .c zT, .t 93] 94, iM 95 94, iV (.fa 19) 5 96 95 false,
 iV L1 96 97 95 false, iG B6 [.t 97, .c zS] 98 95 false, iJ .pick [.t 95, .c zT, .t 98] 99, iM 100 99, iV (.fa 20) 5 101 100 false, iV L1 101 102 100 false, iG B6 [.t 102, cI 0] 103 100 false,
 iJ .pick [.t 100, .c zT, .t 103] 104]) (.ite (.t 104) (.seq (.ops [iJ .mv [.c zF] 2]) .ret) .skip)) (.seq (.ops [iJ .mv [.c (.fn (.func 70) [])] 6]) (.seq (.seq (.ops [iU (.fa 10) 1 105,
 iU L1 105 106]) (.block 2 (.seq (.seq (.ops [iJ B1 [.t 106, cI 1] 108, iM 107 108]) (.ite (.t 107) .skip (.ops [iJ B1 [.t 106, cI 2] 109, iM 107 109])))
 (.ite (.t 107) (.seq (.ops [iU (.ld 21 true) 1 110, iU (.call 71) 110 111, iM 112 111, iV (.fa 15) 1 113 112 true, iV L1 113 114 112 true, iV (.call 72) 114 115 112 true,
 iJ .pick [.t 112, .t 115, .c zF] 116, iM 2 116]) .ret) (.seq (.ops [iJ B1 [.t 106, cI 3] 118, iM 117 118]) (.ite (.t 117) (.seq (.ops [iU (.fa 2) 1 119, iU L8 119 120, iU (.fa 11) 1 121,
 iU L2 121 122, iD (.call 34) 120 122 123, iM 124 123, iV (.fa 17) 1 125 124 true, iV L1 125 126 124 true, iV (.fa 2) 1 127 124 true, iV L8 127 128 124 true,
 iG (.call 73) [.t 126, cI 1, .t 128] 129 124 true, iJ .pick [.t 124, .t 129, .c zF] 130, iM 131 130, iV .mv 6 132 131 true, iV (.fa 18) 1 133 131 true, iV L1 133 134 131 true,
 iG .yv [.t 132, .t 134] 135 131 true, iJ .pick [.t 131, .t 135, .c zF] 136, iM 137 136, iV (.fa 19) 1 138 137 true, iV L1 138 139 137 true, iV .lenS 139 140 137 true,
 iG B8 [.t 140, cI 1] 141 137 true, iJ .pick [.t 137, .t 141, .c zF] 142, iM 143 142, iV .mv 6 144 143 true, iV (.fa 19) 1 145 143 true, iV L1 145 146 143 true, iV .lenS 146 147 143 true,
 iG .yv [.t 144, .t 147] 148 143 true, iJ .pick [.t 143, .t 148, .c zF] 149, iM 150 149, iV .mv 6 151 150 true, iV (.fa 18) 1 152 150 true, iV L1 152 153 150 true, iV (.fa 19) 1 154 150 true,
 iV L1 154 155 150 true, iV .lenS 155 156 150 true, iG B2 [.t 153, .t 156] 157 150 true, iG .yv [.t 151, .t 157] 158 150 true, iJ .pick [.t 150, .t 158, .c zF] 159, iM 2 159]) .ret)
 (.seq (.ops [iJ B1 [.t 106, cI 4] 161, iM 160 161]) (.ite (.t 160) (.seq (.ops [iU (.fa 2) 1 162, iU L8 162 163, iU (.fa 11) 1 164, iU L2 164 165, iD (.call 34) 163 165 166, iM 167 166,
 iV (.fa 17) 1 168 167 true, iV L1 168 169 167 true, iV (.fa 2) 1 170 167 true, iV L8 170 171 167 true, iG (.call 73) [.t 169, cI 1, .t 171] 172 167 true, iJ .pick [.t 167, .t 172, .c zF] 173,
 iM 174 173, iV .mv 6 175 174 true, iV (.fa 18) 1 176 174 true, iV L1 176 177 174 true, iG .yv [.t 175, .t 177] 178 174 true, iJ .pick [.t 174, .t 178, .c zF] 179, iM 2 179]) .ret)
 (.seq (.ops [iJ B1 [.t 106, cI 5] 181, iM 180 181]) (.ite (.t 180) (.seq (.ops [iU (.fa 2) 1 182, iU L8 182 183, iU (.fa 11) 1 184, iU L2 184 185, iD (.call 34) 183 185 186, iM 187 186,
 iV (.fa 17) 1 188 187 true, iV L1 188 189 187 true, iV (.fa 2) 1 190 187 true, iV L8 190 191 187 true, iG (.call 73) [.t 189, cI 8, .t 191] 192 187 true, iJ .pick [.t 187, .t 192, .c zF] 193,
 iM 194 193, iV (.fa 17) 1 195 194 true, iV L1 195 196 194 true, iV .len 196 197 194 true, iG B8 [.t 197, cI 2] 198 194 true, iJ .pick [.t 194, .t 198, .c zF] 199, iM 200 199, iV .mv 6 201 200 true,
 iV (.fa 19) 1 202 200 true, iV L1 202 203 200 true, iV .lenS 203 204 200 true, iG .yv [.t 201, .t 204] 205 200 true, iJ .pick [.t 200, .t 205, .c zF] 206, iM 2 206]) .ret)
 (.seq (.ops [iJ B1 [.t 106, cI 6] 208, iM 207 208]) (.ite (.t 207) (.seq (.ops [iU (.fa 2) 1 209, iU L8 209 210, iU (.fa 11) 1 211, iU L2 211 212, iD (.call 34) 210 212 213, iM 214 213,
 iV (.fa 16) 1 215 214 true, iV L1 215 216 214 true, iV (.fa 2) 1 217 214 true, iV L8 217 218 214 true, iG (.call 73) [.t 216, cI 8, .t 218] 219 214 true, iJ .pick [.t 214, .t 219, .c zF] 220,
 iM 2 220]) .ret) (.seq (.ops [iJ B1 [.t 106, cI 7] 222, iM 221 222]) (.ite (.t 221) (.seq (.ops [iU (.fa 2) 1 223, iU L8 223 224, iU (.fa 11) 1 225, iU L2 225 226, iD (.call 34) 224 226 227,
 iM 228 227, iV (.fa 16) 1 229 228 true, iV L1 229 230 228 true, iV (.fa 2) 1 231 228 true, iV L8 231 232 228 true, iG (.call 73) [.t 230, cI 8, .t 232] 233 228 true,
 iJ .pick [.t 228, .t 233, .c zF] 234, iM 235 234, iV (.ld 21 true) 1 236 235 true, iV (.call 71) 236 237 235 true, iJ .pick [.t 235, .t 237, .c zF] 238, iM 239 238, iV (.fa 15) 1 240 239 true,
 iV L1 240 241 239 true, iV (.call 72) 241 242 239 true, iJ .pick [.t 239, .t 242, .c zF] 243, iM 2 243]) .ret) (.seq (.ops [iJ B1 [.t 106, cI 8] 245, iM 244 245])
 (.ite (.t 244) (.seq (.ops [iU (.fa 20) 1 246, iU L1 246 247, iJ B8 [.t 247, cI 1] 248, iM 249 248, iV (.fa 20) 1 250 249 true, iV L1 250 251 249 true, iG B7 [.t 251, cI 4] 252 249 true,
 iJ .pick [.t 249, .t 252, .c zF] 253, iM 2 253]) .ret) .skip)))))))))))))))) (.seq (.ops [iJ .mv [.c zT] 2]) .ret))))))))
theorem fn33 : fnOf Tryz.prog 33 = some (254, [.t 2], ir33) := by kernel_rfl
def ir34 : C := (.seq (.ops [iU .box 0 2, iU .box 1 3, iJ .mv [.c zF] 4]) (.seq (.any [14] [(iU (.fa 1) 3 5, 0, [14]), (iU L1 5 6, 1, [14]), (iJ B8 [.t 6, .c (.pv (.i .u32 1))] 7, 0, [14]),
 (iM 8 7, 0, [14]), (iV (.fa 1) 3 9 8 true, 0, [14]), (iV L1 9 10 8 true, 1, [14]), (iV L8 2 11 8 true, 1, [14]), (iV (.fa 0) 3 12 8 true, 0, [14]), (iV L1 12 13 8 true, 1, [14]),
 (iG (.call 74) [.t 11, .t 13] 14 8 true, 1, [14]), (iG B7 [.t 10, .t 14] 15 8 true, 0, []), (iJ .pick [.t 8, .t 15, .c zF] 16, 0, [14]), (iM 4 16, 0, [])]) .ret))
theorem fn34 : fnOf Tryz.prog 34 = some (17, [.t 4], ir34) := by kernel_rfl
def ir35 : C := (.seq (.ops [iU .box 0 2, iU .box 1 3, iJ .mv [.c zF] 4]) (.seq (.seq (.ops [iU L8 2 7, iJ .mv [cI 0] 8]) (.block 0 (.loop (.seq (.ops [iJ B3 [.t 8, cI 8] 9]) (.seq (.ite (.t 9) .skip
 (.exit 0)) (.seq (.block 1 (.seq (.ops [iM 10 8, iD (.ixA 8 1 false) 7 8 11, iM 5 10, iM 6 11]) (.seq (.ops [iM 12 6, iM 13 5, iD (.iaA 8 1) 3 13 14, iU L1 14 15, iD B4 12 15 16])
 (.ite (.t 16) (.seq (.ops [iJ .mv [.c zF] 4]) .ret) .skip)))) (.ops [iJ B2 [.t 8, cI 1] 17, iM 8 17]))))))) (.seq (.ops [iJ .mv [.c zT] 4]) .ret)))
theorem fn35 : fnOf Tryz.prog 35 = some (18, [.t 4], ir35) := by kernel_rfl
def ir36 : C := (.seq (.ops [iU .box 0 2, iU .box 1 3, iJ (.new zV) [] 4]) (.seq (.seq (.ops [iU (.fa 0) 3 5, iU L1 5 6, iJ B8 [.t 6, cI 1] 7, iM 8 7, iV (.fa 0) 3 9 8 true, iV L1 9 10 8 true,
 iG B7 [.t 10, cI 8] 11 8 true, iJ .pick [.t 8, .t 11, .c zF] 12]) (.ite (.t 12) (.any [] [(iU (.fa 0) 3 13, 0, []), (iU L1 13 14, 1, []), (iJ B5 [.t 14, cI 1] 15, 0, []), (iU (.fa 0) 3 16, 0, []),
 (iU L1 16 17, 1, []), (iJ B5 [.t 17, cI 1] 18, 0, []), (iD (.iaA 8 1) 2 18 19, 0, []), (iU L1 19 20, 1, []), (iU (.fa 1) 3 21, 0, []), (iU L1 21 22, 1, []), (iD .mx 20 22 23, 0, []),
 (iD (.iaA 8 1) 2 15 24, 0, []), (iO S1 [.t 24, .t 23], 2, [])]) .skip)) (.seq (.ops [iU L8 2 25, iO (.sto 8) [.t 4, .t 25]]) .ret)))
theorem fn36 : fnOf Tryz.prog 36 = some (26, [.c 4 8 true], ir36) := by kernel_rfl
def ir37 : C := (.seq (.ops [iU .box 1 3, iJ .mv [cI 0] 4]) (.seq (.seq (.ops [iU (.fa 10) 3 13, iU L1 13 14]) (.block 0 (.seq (.ops [iJ B1 [.t 14, cI 8] 16, iM 15 16])
 (.ite (.t 15) (.seq (.any [] [(iM 17 0, 0, []), (iU (.fa 0) 3 18, 0, []), (iU (.fa 0) 18 19, 0, []), (iU L1 19 20, 1, []), (iJ B5 [.t 20, cI 1] 21, 0, []), (iU (.fa 20) 3 22, 0, []),
 (iU L1 22 23, 1, []), (iU .nilc 17 24, 0, []), (iU (.fa 10) 24 25, 0, []), (iD (.iaA 8 1) 25 21 26, 0, []), (iO S1 [.t 26, .t 23], 2, [])]) (.seq (.ops [iJ .mv [cI 0] 4]) .ret))
 (.seq (.ops [iJ B1 [.t 14, cI 9] 28, iM 27 28]) (.ite (.t 27) (.seq (.any [] [(iM 29 0, 0, []), (iU (.fa 0) 3 30, 0, []), (iU (.fa 0) 30 31, 0, []), (iU L1 31 32, 1, []),
 (iJ B5 [.t 32, cI 1] 33, 0, []), (iU .nilc 29 34, 0, []), (iU (.fa 18) 34 35, 0, []), (iD (.iaA 8 1) 35 33 36, 0, []), (iO S1 [.t 36, .c zT], 2, [])]) (.seq (.ops [iJ .mv [cI 0] 4]) .ret))
 (.seq (.seq (.ops [iJ B1 [.t 14, cI 1] 38, iM 37 38]) (.ite (.t 37) .skip (.ops [iJ B1 [.t 14, cI 2] 39, iM 37 39]))) (.ite (.t 37) (.seq (.seq (.any [45] [(iM 40 0, 0, [45]),
 (iU .nilc 40 41, 0, [45]), (iU (.ld 26 true) 41 42, 1, [45]), (iU (.fa 13) 3 43, 0, [45]), (iU L2 43 44, 1, [45]), (iD (.call 75) 42 44 45, 3, [45]), (iM 5 45, 0, [])]) (.seq (.ops [iM 46 5,
 iJ B6 [.t 46, cI 0] 47]) (.ite (.t 47) (.seq (.ops [iM 48 5, iM 4 48]) .ret) .skip))) (.seq (.any [56] [(iM 50 0, 0, [56]), (iU .nilc 50 51, 0, [56]), (iU (.fa 8) 51 52, 0, [56]),
 (iU L1 52 53, 1, [56]), (iU (.fa 0) 3 54, 0, [56]), (iU L2 54 55, 1, [56]), (iD (.call 40) 53 55 56, 3, [56]), (iM 49 56, 0, []), (iU (.ext 0) 49 57, 0, [56]), (iU (.ext 1) 49 58, 0, [56]),
 (iM 6 57, 0, []), (iM 7 58, 0, [])]) (.seq (.any [75, 76] [(iM 59 0, 0, [75, 76]), (iM 60 0, 0, [75, 76]), (iU .nilc 60 61, 0, [75, 76]), (iU (.fa 8) 61 62, 0, [75, 76]), (iU L1 62 63, 1, [75, 76]),
 (iM 64 6, 0, [75, 76]), (iU (.fa 0) 3 65, 0, [75, 76]), (iU L2 65 66, 1, [75, 76]), (iU (.fa 10) 3 67, 0, [75, 76]), (iU L1 67 68, 1, [75, 76]), (iJ B1 [.t 68, cI 2] 69, 0, [75, 76]),
 (iU (.fa 0) 3 70, 0, [75, 76]), (iU L2 70 71, 1, [75, 76]), (iU (.fa 15) 3 72, 0, [75, 76]), (iU L1 72 73, 1, [75, 76]),
 (iJ (.bld [2, 1, 2, 1, 8, 1]) [.t 66, .t 69, .t 71, .t 73, .c zV, .c zN] 74, 0, [75, 76]), (iU (.bsl 15) 74 75, 1, [75, 76]), (iJ (.call 76) [.t 63, .t 64, .t 75] 76, 2, [76]),
 (iU .nilc 59 77, 0, []), (iU (.fa 8) 77 78, 0, []), (iO S1 [.t 78, .t 76], 2, [])]) (.seq (.any [93] [(iM 79 0, 0, [93]), (iM 80 0, 0, [93]), (iU .nilc 80 81, 0, [93]), (iU (.fa 9) 81 82, 0, [93]),
 (iU L1 82 83, 1, [93]), (iU (.fa 0) 3 84, 0, [93]), (iU L2 84 85, 1, [93]), (iU (.fa 13) 3 86, 0, [93]), (iU L2 86 87, 1, [93]), (iU (.fa 15) 3 88, 0, [93]), (iU L1 88 89, 1, [93]),
 (iU (.fa 0) 3 90, 0, [93]), (iU L2 90 91, 1, [93]), (iJ (.bld [2, 2, 1, 2, 8]) [.t 85, .t 87, .t 89, .t 91, .c zV] 92, 0, [93]), (iD (.call 77) 83 92 93, 2, [93]), (iU .nilc 79 94, 0, []),
 (iU (.fa 9) 94 95, 0, []), (iO S1 [.t 95, .t 93], 2, [])]) (.seq (.ops [iJ .mv [cI 0] 4]) .ret))))) .skip)))))))) (.seq (.any [103] [(iM 97 0, 0, [103]), (iU .nilc 97 98, 0, [103]),
 (iU (.fa 8) 98 99, 0, [103]), (iU L1 99 100, 1, [103]), (iU (.fa 11) 3 101, 0, [103]), (iU L2 101 102, 1, [103]), (iD (.call 40) 100 102 103, 3, [103]), (iM 96 103, 0, []),
 (iU (.ext 0) 96 104, 0, [103]), (iU (.ext 1) 96 105, 0, [103]), (iM 8 104, 0, []), (iM 9 105, 0, [])]) (.seq (.seq (.ops [iM 106 9, iU U1 106 107]) (.ite (.t 107) (.seq (.ops [iJ .mv [cI 2] 4]) .ret)
 .skip)) (.seq (.ops [iM 108 0, iU .nilc 108 109, iU (.fa 8) 109 110, iU L1 110 111, iM 112 8, iD (.iaS 15) 111 112 113, iM 10 113]) (.seq (.seq (.ops [iU (.fa 10) 3 114, iU L1 114 115,
 iJ B1 [.t 115, cI 6] 116, iM 117 116, iV (.fa 10) 3 118 117 false, iV L1 118 119 117 false, iG B1 [.t 119, cI 7] 120 117 false, iJ .pick [.t 117, .c zT, .t 120] 121])
 (.ite (.t 121) (.seq (.ops [iM 122 0, iM 123 10, iU (.ld 21 true) 3 124, iJ (.call 78) [.t 122, .t 123, .t 124] 125, iM 4 125]) .ret) .skip)) (.seq (.seq (.ops [iM 126 10, iU .nilc 126 127,
 iU (.fa 2) 127 128, iU L1 128 129]) (.ite (.t 129) (.seq (.ops [iJ .mv [cI 23] 4]) .ret) .skip)) (.seq (.any [136] [(iM 131 10, 0, [136]), (iU .nilc 131 132, 0, [136]),
 (iU (.fa 14) 132 133, 0, [136]), (iU L1 133 134, 1, [136]), (iU (.ld 21 true) 3 135, 1, [136]), (iD (.call 79) 134 135 136, 3, [136]), (iM 130 136, 0, []), (iU (.ext 0) 130 137, 0, [136]),
 (iU (.ext 1) 130 138, 0, [136]), (iM 11 137, 0, []), (iM 12 138, 0, [])]) (.seq (.seq (.ops [iM 139 12, iJ B6 [.t 139, cI 0] 140]) (.ite (.t 140) (.seq (.ops [iM 141 12, iM 4 141]) .ret) .skip))
 (.seq (.any [154] [(iM 143 10, 0, [154]), (iM 144 10, 0, [154]), (iU .nilc 144 145, 0, [154]), (iU (.fa 14) 145 146, 0, [154]), (iU L1 146 147, 1, [154]), (iU (.fa 17) 3 148, 0, [154]),
 (iU L1 148 149, 1, [154]), (iU (.fa 0) 3 150, 0, [154]), (iU L2 150 151, 1, [154]), (iM 152 11, 0, [154]), (iJ (.bld [2, 1, 8]) [.t 151, .t 152, .c zV] 153, 0, [154]),
 (iJ (.call 80) [.t 147, .t 149, .t 153] 154, 2, [154]), (iM 142 154, 0, []), (iU (.ext 0) 142 155, 0, [154]), (iU (.ext 1) 142 156, 0, [154]), (iU .nilc 143 157, 0, []), (iU (.fa 14) 157 158, 0, []),
 (iO S1 [.t 158, .t 155], 2, []), (iM 12 156, 0, [])]) (.seq (.ops [iM 159 12, iM 4 159]) .ret)))))))))))
theorem fn37 : fnOf Tryz.prog 37 = some (160, [.t 4], ir37) := by kernel_rfl
def ir38 : C := (.seq (.ops [iJ .mv [.c zF] 4]) (.seq (.seq (.ops [iM 6 0, iU .len 6 7, iM 8 1, iU .len 8 9, iD B6 7 9 10]) (.ite (.t 10) (.seq (.ops [iJ .mv [.c zF] 4]) .ret) .skip))
 (.seq (.seq (.ops [iJ .mv [cI 0] 5]) (.block 0 (.loop (.seq (.seq (.ops [iM 11 5, iM 12 0, iU .len 12 13, iD B3 11 13 14]) (.ite (.t 14) .skip (.exit 0)))
 (.seq (.block 1 (.seq (.any [] [(iM 17 0, 0, []), (iM 18 5, 0, []), (iD (.iaS 15) 17 18 19, 1, []), (iU (.ld 15 true) 19 20, 1, []), (iM 21 1, 0, []), (iM 22 5, 0, []),
 (iD (.iaS 15) 21 22 23, 1, []), (iU (.ld 15 true) 23 24, 1, []),
 (iD (.eqv true [.int .i64, .int .u32, .int .i64, .int .u32, .str, .int .i64, .int .u32, .int .u32, .int .u32, .int .u32, .int .u32, .int .u32, .int .u32, .int .u32, .int .u32]) 20 24 25, 0, [])])
 (.ite (.t 25) (.seq (.ops [iJ .mv [.c zF] 4]) .ret) .skip))) (.ops [iM 15 5, iJ B2 [.t 15, cI 1] 16, iM 5 16])))))) (.seq (.ops [iJ .mv [.c zT] 4]) .ret))))
theorem fn38 : fnOf Tryz.prog 38 = some (26, [.t 4], ir38) := by kernel_rfl
def ir39 : C := (.seq (.ops [iJ .mv [.c zF] 4]) (.seq (.seq (.ops [iM 6 0, iU .len 6 7, iM 8 1, iU .len 8 9, iD B6 7 9 10]) (.ite (.t 10) (.seq (.ops [iJ .mv [.c zF] 4]) .ret) .skip))
 (.seq (.seq (.ops [iJ .mv [cI 0] 5]) (.block 0 (.loop (.seq (.seq (.ops [iM 11 5, iM 12 0, iU .len 12 13, iD B3 11 13 14]) (.ite (.t 14) .skip (.exit 0)))
 (.seq (.block 1 (.seq (.any [] [(iM 17 0, 0, []), (iM 18 5, 0, []), (iD (.iaS 11) 17 18 19, 1, []), (iU (.ld 11 true) 19 20, 1, []), (iM 21 1, 0, []), (iM 22 5, 0, []),
 (iD (.iaS 11) 21 22 23, 1, []), (iU (.ld 11 true) 23 24, 1, []),
 (iD (.eqv true [.int .i64, .int .u32, .str, .int .u32, .int .u32, .int .u32, .int .u32, .int .u32, .int .u32, .int .u32, .int .u32]) 20 24 25, 0, [])]) (.ite (.t 25) (.seq (.ops [iJ .mv [.c zF] 4])
 .ret) .skip))) (.ops [iM 15 5, iJ B2 [.t 15, cI 1] 16, iM 5 16])))))) (.seq (.ops [iJ .mv [.c zT] 4]) .ret))))
theorem fn39 : fnOf Tryz.prog 39 = some (26, [.t 4], ir39) := by kernel_rfl
def ir40 : C := (.seq (.ops [iU .box 1 3, iJ .mv [cI 0] 4, iJ .mv [.c zF] 5]) (.seq (.ops [iM 6 0, iU L2 3 7, iJ (.call 81) [.t 6, .t 7, .c (.fn (.func 82) [])] 8, iU (.ext 0) 8 9, iU (.ext 1) 8 10,
 iM 4 9, iM 5 10]) .ret))
theorem fn40 : fnOf Tryz.prog 40 = some (11, [.t 4, .t 5], ir40) := by kernel_rfl
def ir41 : C := (.seq (.ops [iJ .mv [.c zN] 2]) (.seq (.seq (.ops [iM 3 0, iU (.eqn false) 3 4]) (.ite (.t 4) (.seq (.ops [iJ .mv [.c zN] 2]) .ret) .skip)) (.seq (.ops [iJ (.bsl 11) [] 5, iM 6 0,
 iD (.app 11 64) 5 6 7, iM 2 7]) .ret)))
theorem fn41 : fnOf Tryz.prog 41 = some (8, [.t 2], ir41) := by kernel_rfl
def ir42 : C := (.seq (.ops [iJ .mv [.c zN] 2]) (.seq (.seq (.ops [iM 3 0, iU (.eqn false) 3 4]) (.ite (.t 4) (.seq (.ops [iJ .mv [.c zN] 2]) .ret) .skip)) (.seq (.ops [iJ (.bsl 15) [] 5, iM 6 0,
 iD (.app 15 96) 5 6 7, iM 2 7]) .ret)))
theorem fn42 : fnOf Tryz.prog 42 = some (8, [.t 2], ir42) := by kernel_rfl
def ir43 : C := (.seq (.ops [iJ .mv [.c zF] 4]) (.seq (.seq (.ops [iM 6 0, iU .len 6 7, iM 8 1, iU .len 8 9, iD B6 7 9 10]) (.ite (.t 10) (.seq (.ops [iJ .mv [.c zF] 4]) .ret) .skip))
 (.seq (.seq (.ops [iM 11 0, iU .len 11 12, iJ .mv [cI 0] 13]) (.block 0 (.loop (.seq (.ops [iD B3 13 12 14]) (.seq (.ite (.t 14) .skip (.exit 0)) (.seq (.block 1 (.seq (.ops [iM 15 13, iM 5 15])
 (.seq (.any [] [(iM 16 0, 0, []), (iM 17 5, 0, []), (iD (.iaS 15) 16 17 18, 1, []), (iU (.ld 15 true) 18 19, 1, []), (iM 20 1, 0, []), (iM 21 5, 0, []), (iD (.iaS 15) 20 21 22, 1, []),
 (iU (.ld 15 true) 22 23, 1, []),
 (iD (.eqv true [.int .i64, .int .u32, .int .i64, .int .u32, .str, .int .i64, .int .u32, .int .u32, .int .u32, .int .u32, .int .u32, .int .u32, .int .u32, .int .u32, .int .u32]) 19 23 24, 0, [])])
 (.ite (.t 24) (.seq (.ops [iJ .mv [.c zF] 4]) .ret) .skip)))) (.ops [iJ B2 [.t 13, cI 1] 25, iM 13 25]))))))) (.seq (.ops [iJ .mv [.c zT] 4]) .ret))))
theorem fn43 : fnOf Tryz.prog 43 = some (26, [.t 4], ir43) := by kernel_rfl
def ir44 : C := (.seq (.ops [iJ .mv [.c zF] 6]) (.seq (.seq (.ops [iM 10 0, iU .len 10 11, iM 12 1, iU .len 12 13, iD B6 11 13 14]) (.ite (.t 14) (.seq (.ops [iJ .mv [.c zF] 6]) .ret) .skip))
 (.seq (.seq (.ops [iM 15 0, iU .len 15 16, iJ .mv [cI 0] 17]) (.block 0 (.loop (.seq (.ops [iD B3 17 16 18]) (.seq (.ite (.t 18) .skip (.exit 0)) (.seq (.block 1 (.seq (.ops [iM 19 17,
 iD (.iaS 15) 15 17 20, iU (.ld 15 true) 20 21, iJ (.new (.agg [zI, zU, zF, zI, zU, zS, zV, zN])) [] 8, iM 7 19, iO (.sto 15) [.t 8, .t 21]]) (.seq (.ops [iM 22 1, iM 23 7, iD (.iaS 15) 22 23 24,
 iU (.ld 15 true) 24 25, iJ (.new (.agg [zI, zU, zF, zI, zU, zS, zV, zN])) [] 9, iO (.sto 15) [.t 9, .t 25]]) (.seq (.ops [iM 26 2, iU (.ld 15 true) 8 27, iU (.ld 15 true) 9 28,
 iJ .yv [.t 26, .t 27, .t 28] 29, iU U1 29 30]) (.ite (.t 30) (.seq (.ops [iJ .mv [.c zF] 6]) .ret) .skip))))) (.ops [iJ B2 [.t 17, cI 1] 31, iM 17 31]))))))) (.seq (.ops [iJ .mv [.c zT] 6]) .ret))))
theorem fn44 : fnOf Tryz.prog 44 = some (32, [.t 6], ir44) := by kernel_rfl
def ir45 : C := (.seq (.ops [iU .box 0 2, iU .box 1 3, iJ .mv [.c zF] 4]) (.seq (.ops [iU (.fa 0) 2 5, iU L2 5 6, iU (.fa 0) 3 7, iU L2 7 8, iD (.eqv false [.int .i64, .int .u32]) 6 8 9, iM 10 9,
 iV (.fa 2) 2 11 10 true, iV L1 11 12 10 true, iV (.fa 2) 3 13 10 true, iV L1 13 14 10 true, iG (.binB .eql) [.t 12, .t 14] 15 10 true, iJ .pick [.t 10, .t 15, .c zF] 16, iM 17 16,
 iV (.fa 3) 2 18 17 true, iV L2 18 19 17 true, iV (.fa 3) 3 20 17 true, iV L2 20 21 17 true, iG (.eqv false [.int .i64, .int .u32]) [.t 19, .t 21] 22 17 true, iJ .pick [.t 17, .t 22, .c zF] 23,
 iM 24 23, iV (.fa 5) 2 25 24 true, iV L1 25 26 24 true, iV (.fa 5) 3 27 24 true, iV L1 27 28 24 true, iG B1 [.t 26, .t 28] 29 24 true, iJ .pick [.t 24, .t 29, .c zF] 30, iM 31 30,
 iV (.fa 6) 2 32 31 true, iV L8 32 33 31 true, iV (.fa 6) 3 34 31 true, iV L8 34 35 31 true,
 iG (.eqv false [.int .u32, .int .u32, .int .u32, .int .u32, .int .u32, .int .u32, .int .u32, .int .u32]) [.t 33, .t 35] 36 31 true, iJ .pick [.t 31, .t 36, .c zF] 37, iM 38 37,
 iV (.fa 14) 2 39 38 true, iV L1 39 40 38 true, iV (.fa 14) 3 41 38 true, iV L1 41 42 38 true, iG (.call 46) [.t 40, .t 42] 43 38 true, iJ .pick [.t 38, .t 43, .c zF] 44, iM 4 44]) .ret))
theorem fn45 : fnOf Tryz.prog 45 = some (45, [.t 4], ir45) := by kernel_rfl
def ir46 : C := (.seq (.ops [iJ .mv [.c zF] 4]) (.seq (.seq (.ops [iM 6 0, iU .len 6 7, iM 8 1, iU .len 8 9, iD B6 7 9 10]) (.ite (.t 10) (.seq (.ops [iJ .mv [.c zF] 4]) .ret) .skip))
 (.seq (.seq (.ops [iM 11 0, iU .len 11 12, iJ .mv [cI 0] 13]) (.block 0 (.loop (.seq (.ops [iD B3 13 12 14]) (.seq (.ite (.t 14) .skip (.exit 0)) (.seq (.block 1 (.seq (.ops [iM 15 13, iM 5 15])
 (.seq (.any [] [(iM 16 0, 0, []), (iM 17 5, 0, []), (iD (.iaS 11) 16 17 18, 1, []), (iU (.ld 11 true) 18 19, 1, []), (iM 20 1, 0, []), (iM 21 5, 0, []), (iD (.iaS 11) 20 21 22, 1, []),
 (iU (.ld 11 true) 22 23, 1, []), (iD (.eqv true [.int .i64, .int .u32, .str, .int .u32, .int .u32, .int .u32, .int .u32, .int .u32, .int .u32, .int .u32, .int .u32]) 19 23 24, 0, [])])
 (.ite (.t 24) (.seq (.ops [iJ .mv [.c zF] 4]) .ret) .skip)))) (.ops [iJ B2 [.t 13, cI 1] 25, iM 13 25]))))))) (.seq (.ops [iJ .mv [.c zT] 4]) .ret))))
theorem fn46 : fnOf Tryz.prog 46 = some (26, [.t 4], ir46) := by kernel_rfl
def ir47 : C := (.seq (.ops [iU .box 0 2, iU .box 1 3, iJ (.new zV) [] 4]) (.seq (.ops [iJ (.bldV 8 1) [.c zU, .c zU, .c zU, .c zU, .c zU, .c zU, .c zU, .c zU] 7, iJ (.new zV) [] 5,
 iO (.sto 8) [.t 5, .t 7]]) (.seq (.seq (.ops [iJ .mv [cI 0] 6]) (.block 0 (.loop (.seq (.seq (.ops [iM 8 6, iJ B3 [.t 8, cI 8] 9]) (.ite (.t 9) .skip (.exit 0))) (.seq (.block 1 (.seq (.ops [iM 12 6,
 iM 13 6, iD (.iaA 8 1) 2 13 14, iU L1 14 15, iD (.iaA 8 1) 5 12 16, iO S1 [.t 16, .t 15]]) (.seq (.any [] [(iM 17 6, 0, []), (iD (.iaA 8 1) 3 17 18, 0, []), (iU L1 18 19, 1, []), (iM 20 6, 0, []),
 (iD (.iaA 8 1) 2 20 21, 0, []), (iU L1 21 22, 1, []), (iD B4 19 22 23, 0, [])]) (.ite (.t 23) (.ops [iM 24 6, iM 25 6, iD (.iaA 8 1) 3 25 26, iU L1 26 27, iD (.iaA 8 1) 5 24 28,
 iO S1 [.t 28, .t 27]]) .skip)))) (.ops [iM 10 6, iJ B2 [.t 10, cI 1] 11, iM 6 11])))))) (.seq (.ops [iU L8 5 29, iO (.sto 8) [.t 4, .t 29]]) .ret))))
theorem fn47 : fnOf Tryz.prog 47 = some (30, [.c 4 8 true], ir47) := by kernel_rfl
def ir48 : C := (.seq (.ops [iU .box 0 1, iJ (.new zV) [] 2]) (.seq (.ops [iJ (.bldV 8 1) [.c zU, .c zU, .c zU, .c zU, .c zU, .c zU, .c zU, .c zU] 5, iJ (.new zV) [] 3, iO (.sto 8) [.t 3, .t 5]])
 (.seq (.seq (.ops [iJ .mv [cI 0] 4]) (.block 0 (.loop (.seq (.seq (.ops [iM 6 4, iJ B3 [.t 6, cI 8] 7]) (.ite (.t 7) .skip (.exit 0))) (.seq (.block 1 (.seq (.ops [iM 10 4, iJ B2 [.t 10, cI 1] 11,
 iU (.fa 0) 1 12, iU L1 12 13, iD B1 11 13 14]) (.ite (.t 14) (.ops [iM 15 4, iU (.fa 1) 1 16, iU L1 16 17, iD (.iaA 8 1) 3 15 18, iO S1 [.t 18, .t 17]]) .skip))) (.ops [iM 8 4, iJ B2 [.t 8, cI 1] 9,
 iM 4 9])))))) (.seq (.ops [iU L8 3 19, iO (.sto 8) [.t 2, .t 19]]) .ret))))
theorem fn48 : fnOf Tryz.prog 48 = some (20, [.c 2 8 true], ir48) := by kernel_rfl
def ir49 : C := (.seq (.ops [iU .box 0 2, iU .box 1 3, iJ .mv [cI 0] 4]) (.seq (.ops [iJ .mv [.c zF] 5, iJ .mv [.c zF] 6]) (.seq (.seq (.ops [iJ .mv [cI 0] 7])
 (.block 0 (.loop (.seq (.seq (.ops [iM 8 7, iJ B3 [.t 8, cI 8] 9]) (.ite (.t 9) .skip (.exit 0))) (.seq (.block 1 (.seq (.any [] [(iM 12 5, 0, []), (iM 13 12, 0, []), (iV .mv 7 14 13 false, 0, []),
 (iG (.iaA 8 1) [.t 2, .t 14] 15 13 false, 0, []), (iV L1 15 16 13 false, 1, []), (iV .mv 7 17 13 false, 0, []), (iG (.iaA 8 1) [.t 3, .t 17] 18 13 false, 0, []), (iV L1 18 19 13 false, 1, []),
 (iG B3 [.t 16, .t 19] 20 13 false, 0, []), (iJ .pick [.t 13, .c zT, .t 20] 21, 0, []), (iM 5 21, 0, [])]) (.any [] [(iM 22 6, 0, []), (iM 23 22, 0, []), (iV .mv 7 24 23 false, 0, []),
 (iG (.iaA 8 1) [.t 2, .t 24] 25 23 false, 0, []), (iV L1 25 26 23 false, 1, []), (iV .mv 7 27 23 false, 0, []), (iG (.iaA 8 1) [.t 3, .t 27] 28 23 false, 0, []), (iV L1 28 29 23 false, 1, []),
 (iG B4 [.t 26, .t 29] 30 23 false, 0, []), (iJ .pick [.t 23, .c zT, .t 30] 31, 0, []), (iM 6 31, 0, [])]))) (.ops [iM 10 7, iJ B2 [.t 10, cI 1] 11, iM 7 11]))))))
 (.seq (.block 2 (.seq (.ops [iM 33 5, iM 34 33, iV .mv 6 35 34 true, iJ .pick [.t 34, .t 35, .c zF] 36, iM 32 36]) (.ite (.t 32) (.seq (.ops [iJ .mv [cI 2] 4]) .ret) (.seq (.ops [iM 38 5, iM 37 38])
 (.ite (.t 37) (.seq (.ops [iJ .mv [.c (.pv (.i .i64 (-1)))] 4]) .ret) (.seq (.ops [iM 40 6, iM 39 40]) (.ite (.t 39) (.seq (.ops [iJ .mv [cI 1] 4]) .ret) .skip))))))) (.seq (.ops [iJ .mv [cI 0] 4])
 .ret)))))
theorem fn49 : fnOf Tryz.prog 49 = some (41, [.t 4], ir49) := by kernel_rfl
def ir61 : C := (.seq (.ops [iU .box 0 1, iJ .mv [.c zF] 2]) (.seq (.ops [iU (.fa 0) 1 3, iU L1 3 4, iJ B1 [.t 4, cI 0] 5, iM 6 5, iV (.fa 1) 1 7 6 true, iV L1 7 8 6 true,
 iG B1 [.t 8, .c zU] 9 6 true, iJ .pick [.t 6, .t 9, .c zF] 10, iM 2 10]) .ret))
theorem fn61 : fnOf Tryz.prog 61 = some (11, [.t 2], ir61) := by kernel_rfl
def ir62 : C := (.seq (.ops [iU .box 1 3, iJ .mv [.c zF] 4]) (.seq (.seq (.ops [iJ .mv [cI 0] 5]) (.block 0 (.loop (.seq (.seq (.ops [iM 6 5, iM 7 0, iU .len 7 8, iD B3 6 8 9]) (.ite (.t 9) .skip
 (.exit 0))) (.seq (.block 1 (.seq (.any [17, 32] [(iU L8 3 12, 1, [17, 32]), (iM 13 0, 0, [17, 32]), (iM 14 5, 0, [17, 32]), (iD (.iaS 2) 13 14 15, 1, [17, 32]), (iU L2 15 16, 1, [17, 32]),
 (iD (.call 21) 12 16 17, 3, [17, 32]), (iU U1 17 18, 0, [32]), (iM 19 18, 0, [32]), (iV .mv 5 20 19 false, 0, [17, 32]), (iG B4 [.t 20, cI 0] 21 19 false, 0, [17, 32]),
 (iV .mv 21 22 19 false, 0, [17, 32]), (iV .mv 0 23 22 true, 0, [17, 32]), (iV .mv 5 24 22 true, 0, [17, 32]), (iG B5 [.t 24, cI 1] 25 22 true, 0, [17, 32]),
 (iG (.iaS 2) [.t 23, .t 25] 26 22 true, 1, [17, 32]), (iV L2 26 27 22 true, 1, [17, 32]), (iV .mv 0 28 22 true, 0, [17, 32]), (iV .mv 5 29 22 true, 0, [17, 32]),
 (iG (.iaS 2) [.t 28, .t 29] 30 22 true, 1, [17, 32]), (iV L2 30 31 22 true, 1, [17, 32]), (iG (.call 31) [.t 27, .t 31] 32 22 true, 3, [17, 32]), (iV U1 32 33 22 true, 0, [17]),
 (iG .pick [.t 22, .t 33, .c zF] 34 19 false, 0, [17, 32]), (iJ .pick [.t 19, .c zT, .t 34] 35, 0, [17, 32])]) (.ite (.t 35) (.seq (.ops [iJ .mv [.c zF] 4]) .ret) .skip))) (.ops [iM 10 5,
 iJ B2 [.t 10, cI 1] 11, iM 5 11])))))) (.seq (.ops [iJ .mv [.c zT] 4]) .ret)))
theorem fn62 : fnOf Tryz.prog 62 = some (36, [.t 4], ir62) := by kernel_rfl
def ir63 : C := (.seq (.ops [iJ .mv [.c zF] 2]) (.seq (.seq (.ops [iM 8 0, iJ B1 [.t 8, .c zS] 9, iM 10 9, iV .mv 0 11 10 false, iV .lenS 11 12 10 false, iG B4 [.t 12, cI 12] 13 10 false,
 iJ .pick [.t 10, .c zT, .t 13] 14, iM 15 14, iV .mv 0 16 15 false, iG B1 [.t 16, .c (.pv (.s [46]))] 17 15 false, iJ .pick [.t 15, .c zT, .t 17] 18, iM 19 18, iV .mv 0 20 19 false,
 iG B1 [.t 20, .c (.pv (.s [46, 46]))] 21 19 false, iJ .pick [.t 19, .c zT, .t 21] 22]) (.ite (.t 22) (.seq (.ops [iJ .mv [.c zF] 2]) .ret) .skip)) (.seq (.seq (.ops [iJ .mv [cI 0] 3])
 (.block 0 (.loop (.seq (.seq (.ops [iM 23 3, iM 24 0, iU .lenS 24 25, iD B3 23 25 26]) (.ite (.t 26) .skip (.exit 0))) (.seq (.block 1 (.seq (.ops [iM 29 0, iM 30 3, iD .ixS 29 30 31, iM 4 31])
 (.seq (.ops [iM 32 4, iJ B8 [.t 32, .c (.pv (.i .u8 97))] 33, iM 34 33, iV .mv 4 35 34 true, iG B7 [.t 35, .c (.pv (.i .u8 122))] 36 34 true, iJ .pick [.t 34, .t 36, .c zF] 37, iM 38 4,
 iJ B8 [.t 38, .c (.pv (.i .u8 65))] 39, iM 40 39, iV .mv 4 41 40 true, iG B7 [.t 41, .c (.pv (.i .u8 90))] 42 40 true, iJ .pick [.t 40, .t 42, .c zF] 43, iM 44 4,
 iJ B8 [.t 44, .c (.pv (.i .u8 48))] 45, iM 46 45, iV .mv 4 47 46 true, iG B7 [.t 47, .c (.pv (.i .u8 57))] 48 46 true, iJ .pick [.t 46, .t 48, .c zF] 49, iM 5 37, iM 6 43, iM 7 49])
 (.seq (.ops [iM 50 5, iU U1 50 51, iM 52 51, iV .mv 6 53 52 true, iV U1 53 54 52 true, iJ .pick [.t 52, .t 54, .c zF] 55, iM 56 55, iV .mv 7 57 56 true, iV U1 57 58 56 true,
 iJ .pick [.t 56, .t 58, .c zF] 59, iM 60 59, iV .mv 4 61 60 true, iG B6 [.t 61, .c (.pv (.i .u8 46))] 62 60 true, iJ .pick [.t 60, .t 62, .c zF] 63, iM 64 63, iV .mv 4 65 64 true,
 iG B6 [.t 65, .c (.pv (.i .u8 95))] 66 64 true, iJ .pick [.t 64, .t 66, .c zF] 67, iM 68 67, iV .mv 4 69 68 true, iG B6 [.t 69, .c (.pv (.i .u8 45))] 70 68 true, iJ .pick [.t 68, .t 70, .c zF] 71])
 (.ite (.t 71) (.seq (.ops [iJ .mv [.c zF] 2]) .ret) .skip))))) (.ops [iM 27 3, iJ B2 [.t 27, cI 1] 28, iM 3 28])))))) (.seq (.ops [iJ .mv [.c zT] 2]) .ret))))
theorem fn63 : fnOf Tryz.prog 63 = some (72, [.t 2], ir63) := by kernel_rfl
def ir64 : C := (.seq (.ops [iU .box 0 8, iJ .mv [.c zF] 16]) (.seq (.ops [iM 17 1, iM 18 17, iV (.fa 11) 8 19 18 false, iV L2 19 20 18 false, iV (.call 61) 20 21 18 false,
 iJ .pick [.t 18, .c zT, .t 21] 22, iM 23 22, iV .mv 2 24 23 true, iV .mv 24 25 23 true, iV (.fa 13) 8 26 25 false, iV L2 26 27 25 false, iV (.call 61) 27 28 25 false, iV .mv 28 29 25 false,
 iV (.fa 15) 8 30 29 true, iV L1 30 31 29 true, iG B1 [.t 31, .c zS] 32 29 true, iG .pick [.t 29, .t 32, .c zF] 33 25 false, iG .pick [.t 25, .c zT, .t 33] 34 23 true,
 iJ .pick [.t 23, .t 34, .c zF] 35, iM 36 35, iV .mv 3 37 36 true, iV .mv 37 38 36 true, iV (.fa 16) 8 39 38 false, iV L1 39 40 38 false, iV .len 40 41 38 false, iG B1 [.t 41, cI 0] 42 38 false,
 iG .pick [.t 38, .c zT, .t 42] 43 36 true, iJ .pick [.t 36, .t 43, .c zF] 44, iM 45 44, iV .mv 4 46 45 true, iV .mv 46 47 45 true, iV (.fa 17) 8 48 47 false, iV L1 48 49 47 false,
 iV .len 49 50 47 false, iG B1 [.t 50, cI 0] 51 47 false, iG .pick [.t 47, .c zT, .t 51] 52 45 true, iJ .pick [.t 45, .t 52, .c zF] 53, iM 54 53, iV .mv 5 55 54 true, iV .mv 55 56 54 true,
 iV (.fa 18) 8 57 56 false, iV L1 57 58 56 false, iG B1 [.t 58, cI 0] 59 56 false, iG .pick [.t 56, .c zT, .t 59] 60 54 true, iJ .pick [.t 54, .t 60, .c zF] 61, iM 62 61, iV .mv 6 63 62 true,
 iV .mv 63 64 62 true, iV (.fa 19) 8 65 64 false, iV L1 65 66 64 false, iG B1 [.t 66, .c zS] 67 64 false, iG .pick [.t 64, .c zT, .t 67] 68 62 true, iJ .pick [.t 62, .t 68, .c zF] 69, iM 70 69,
 iV .mv 7 71 70 true, iV .mv 71 72 70 true, iV (.fa 20) 8 73 72 false, iV L1 73 74 72 false, iG B1 [.t 74, cI 0] 75 72 false, iG .pick [.t 72, .c zT, .t 75] 76 70 true,
 iJ .pick [.t 70, .t 76, .c zF] 77, iM 16 77]) .ret))
theorem fn64 : fnOf Tryz.prog 64 = some (78, [.t 16], ir64) := by kernel_rfl
def ir65 : C := (.seq (.ops [iU .box 0 1, iJ .mv [.c zF] 2]) (.seq (.ops [iU (.fa 0) 1 3, iU L1 3 4, iJ B1 [.t 4, cI 0] 5, iM 6 5, iV (.fa 1) 1 7 6 true, iV L1 7 8 6 true,
 iG B1 [.t 8, .c zU] 9 6 true, iJ .pick [.t 6, .t 9, .c zF] 10, iM 2 10]) .ret))
theorem fn65 : fnOf Tryz.prog 65 = some (11, [.t 2], ir65) := by kernel_rfl
def ir66 : C := (.seq (.ops [iU .box 1 3, iJ .mv [.c zF] 4]) (.seq (.seq (.ops [iJ .mv [cI 0] 5]) (.block 0 (.loop (.seq (.seq (.ops [iM 6 5, iM 7 0, iU .len 7 8, iD B3 6 8 9]) (.ite (.t 9) .skip
 (.exit 0))) (.seq (.block 1 (.seq (.any [] [(iM 12 0, 0, []), (iM 13 5, 0, []), (iD (.iaS 2) 12 13 14, 1, []), (iU L2 14 15, 1, []), (iU L2 3 16, 1, []),
 (iD (.eqv false [.int .i64, .int .u32]) 15 16 17, 0, [])]) (.ite (.t 17) (.seq (.ops [iJ .mv [.c zT] 4]) .ret) .skip))) (.ops [iM 10 5, iJ B2 [.t 10, cI 1] 11, iM 5 11]))))))
 (.seq (.ops [iJ .mv [.c zF] 4]) .ret)))
theorem fn66 : fnOf Tryz.prog 66 = some (18, [.t 4], ir66) := by kernel_rfl
def ir67 : C := (.seq (.ops [iU .box 1 3, iJ .mv [.c zN] 4]) (.seq (.ops [iJ .mv [.c zN] 5]) (.seq (.ops [iJ .mv [.c zF] 6]) (.seq (.seq (.ops [iJ .mv [cI 0] 7])
 (.block 0 (.loop (.seq (.seq (.ops [iM 9 7, iM 10 0, iU .len 10 11, iD B3 9 11 12]) (.ite (.t 12) .skip (.exit 0))) (.seq (.block 1 (.seq (.seq (.any [] [(iM 15 0, 0, []), (iM 16 7, 0, []),
 (iD (.iaS 15) 15 16 17, 1, []), (iU (.fa 0) 17 18, 0, []), (iU L2 18 19, 1, []), (iU (.fa 0) 3 20, 0, []), (iU L2 20 21, 1, []), (iD (.eqv false [.int .i64, .int .u32]) 19 21 22, 0, [])])
 (.ite (.t 22) (.seq (.ops [iM 23 0, iM 24 7, iD (.iaS 15) 23 24 25, iU (.ld 15 true) 25 26, iJ (.new (.agg [zI, zU, zI, zU, zS, zI, zU, zV])) [] 8, iO (.sto 15) [.t 8, .t 26]])
 (.seq (.ops [iU (.fa 7) 8 27, iU L8 27 28, iU (.fa 7) 3 29, iU L8 29 30, iD (.call 47) 28 30 31, iU (.fa 7) 8 32, iO (.sto 8) [.t 32, .t 31]]) (.seq (.ops [iM 33 5, iU (.ld 15 true) 8 34,
 iU (.bsl 15) 34 35, iD (.app 15 96) 33 35 36, iM 5 36]) (.seq (.ops [iJ .mv [.c zT] 6]) (.exit 1))))) .skip)) (.seq (.seq (.any [47] [(iM 37 6, 0, [47]), (iU U1 37 38, 0, [47]), (iM 39 38, 0, [47]),
 (iV (.fa 0) 3 40 39 true, 0, [47]), (iV L2 40 41 39 true, 1, [47]), (iV .mv 0 42 39 true, 0, [47]), (iV .mv 7 43 39 true, 0, [47]), (iG (.iaS 15) [.t 42, .t 43] 44 39 true, 1, [47]),
 (iV (.fa 0) 44 45 39 true, 0, [47]), (iV L2 45 46 39 true, 1, [47]), (iG (.call 31) [.t 41, .t 46] 47 39 true, 3, [47]), (iJ .pick [.t 39, .t 47, .c zF] 48, 0, [])])
 (.ite (.t 48) (.seq (.ops [iM 49 5, iU (.ld 15 true) 3 50, iU (.bsl 15) 50 51, iD (.app 15 96) 49 51 52, iM 5 52]) (.ops [iJ .mv [.c zT] 6])) .skip)) (.ops [iM 53 5, iM 54 0, iM 55 7,
 iD (.iaS 15) 54 55 56, iU (.ld 15 true) 56 57, iU (.bsl 15) 57 58, iD (.app 15 96) 53 58 59, iM 5 59])))) (.ops [iM 13 7, iJ B2 [.t 13, cI 1] 14, iM 7 14])))))) (.seq (.seq (.ops [iM 60 6,
 iU U1 60 61]) (.ite (.t 61) (.ops [iM 62 5, iU (.ld 15 true) 3 63, iU (.bsl 15) 63 64, iD (.app 15 96) 62 64 65, iM 5 65]) .skip)) (.seq (.ops [iM 66 5, iM 4 66]) .ret))))))
theorem fn67 : fnOf Tryz.prog 67 = some (67, [.t 4], ir67) := by kernel_rfl
def ir68 : C := (.seq (.ops [iU .box 1 3, iJ .mv [.c zN] 4]) (.seq (.ops [iJ .mv [.c zN] 5]) (.seq (.seq (.ops [iJ .mv [cI 0] 6]) (.block 0 (.loop (.seq (.seq (.ops [iM 9 6, iM 10 0, iU .len 10 11,
 iD B3 9 11 12]) (.ite (.t 12) .skip (.exit 0))) (.seq (.block 1 (.seq (.seq (.any [19] [(iM 15 0, 0, [19]), (iM 16 6, 0, [19]), (iD (.iaS 21) 15 16 17, 1, [19]), (iU (.ld 21 true) 17 18, 1, [19]),
 (iU (.call 97) 18 19, 3, [19]), (iU U1 19 20, 0, []), (iM 21 20, 0, []), (iV .mv 0 22 21 false, 0, [19]), (iV .mv 6 23 21 false, 0, [19]), (iG (.iaS 21) [.t 22, .t 23] 24 21 false, 1, [19]),
 (iV (.fa 11) 24 25 21 false, 0, [19]), (iV L2 25 26 21 false, 1, [19]), (iV L2 3 27 21 false, 1, [19]), (iG (.eqv true [.int .i64, .int .u32]) [.t 26, .t 27] 28 21 false, 0, [19]),
 (iJ .pick [.t 21, .c zT, .t 28] 29, 0, [19])]) (.ite (.t 29) (.exit 1) .skip)) (.seq (.any [41, 7] [(iM 30 0, 0, [41, 7]), (iM 31 6, 0, [41, 7]), (iD (.iaS 21) 30 31 32, 1, [41, 7]),
 (iU (.fa 0) 32 33, 0, [41, 7]), (iU L2 33 34, 1, [41, 7]), (iM 35 0, 0, [41, 7]), (iM 36 0, 0, [41, 7]), (iM 37 6, 0, [41, 7]), (iD (.iaS 21) 36 37 38, 1, [41, 7]), (iU (.fa 0) 38 39, 0, [41, 7]),
 (iU L2 39 40, 1, [41, 7]), (iD (.call 98) 35 40 41, 1, [41, 7]), (iJ (.bld [2, 1, 8]) [.t 34, .t 41, .c zV] 42, 0, [7]), (iJ (.new (.agg [zI, zU, zS, zV])) [] 7, 1, [41, 7]),
 (iO (.sto 11) [.t 7, .t 42], 2, [])]) (.seq (.seq (.ops [iJ .mv [cI 0] 8]) (.block 2 (.loop (.seq (.seq (.ops [iM 43 8, iM 44 0, iU .len 44 45, iD B3 43 45 46]) (.ite (.t 46) .skip (.exit 2)))
 (.seq (.block 3 (.seq (.any [53, 71] [(iM 49 0, 0, [53, 71]), (iM 50 8, 0, [53, 71]), (iD (.iaS 21) 49 50 51, 1, [53, 71]), (iU (.ld 21 true) 51 52, 1, [53, 71]), (iU (.call 97) 52 53, 3, [53, 71]),
 (iM 54 53, 0, [71]), (iV .mv 0 55 54 true, 0, [53, 71]), (iV .mv 8 56 54 true, 0, [53, 71]), (iG (.iaS 21) [.t 55, .t 56] 57 54 true, 1, [53, 71]), (iV (.fa 11) 57 58 54 true, 0, [53, 71]),
 (iV L2 58 59 54 true, 1, [53, 71]), (iV L2 3 60 54 true, 1, [53, 71]), (iG (.eqv false [.int .i64, .int .u32]) [.t 59, .t 60] 61 54 true, 0, [53, 71]),
 (iJ .pick [.t 54, .t 61, .c zF] 62, 0, [53, 71]), (iM 63 62, 0, [53, 71]), (iV .mv 0 64 63 true, 0, [53, 71]), (iV .mv 8 65 63 true, 0, [53, 71]),
 (iG (.iaS 21) [.t 64, .t 65] 66 63 true, 1, [53, 71]), (iV (.fa 17) 66 67 63 true, 0, [53, 71]), (iV L1 67 68 63 true, 1, [53, 71]), (iV (.fa 0) 7 69 63 true, 0, [53, 71]),
 (iV L2 69 70 63 true, 1, [53, 71]), (iG (.call 66) [.t 68, .t 70] 71 63 true, 2, [53, 71]), (iJ .pick [.t 63, .t 71, .c zF] 72, 0, [53])]) (.ite (.t 72) (.any [80] [(iU (.fa 3) 7 73, 0, [80]),
 (iU L8 73 74, 1, [80]), (iM 75 0, 0, [80]), (iM 76 8, 0, [80]), (iD (.iaS 21) 75 76 77, 1, [80]), (iU (.fa 0) 77 78, 0, [80]), (iU L2 78 79, 1, [80]), (iD (.call 20) 74 79 80, 3, [80]),
 (iU (.fa 3) 7 81, 0, []), (iO (.sto 8) [.t 81, .t 80], 2, [])]) .skip))) (.ops [iM 47 8, iJ B2 [.t 47, cI 1] 48, iM 8 48])))))) (.ops [iM 83 5, iU (.ld 11 true) 7 84,
 iJ (.call 99) [.t 83, .c zN, .t 84] 85, iM 82 85, iU (.ext 0) 82 86, iU (.ext 1) 82 87, iM 5 86]))))) (.ops [iM 13 6, iJ B2 [.t 13, cI 1] 14, iM 6 14])))))) (.seq (.ops [iM 88 5, iM 4 88]) .ret))))
theorem fn68 : fnOf Tryz.prog 68 = some (89, [.t 4], ir68) := by kernel_rfl
def ir69 : C := (.seq (.ops [iU .box 0 1, iJ (.new (.agg [zI, zU, zV, zI, zI, zU, zI, zU, zS, zN, zN, zI, zS, zI])) [] 2]) (.seq (.seq (.ops [iU (.fa 10) 1 3, iU L1 3 4])
 (.block 0 (.seq (.seq (.ops [iJ B1 [.t 4, cI 1] 6, iM 5 6]) (.ite (.t 5) .skip (.ops [iJ B1 [.t 4, cI 2] 7, iM 5 7]))) (.ite (.t 5) (.ops [iJ (.bld [1, 1]) [cI 0, .c zU] 8, iU (.fa 13) 1 9,
 iO (.sto 2) [.t 9, .t 8], iU (.fa 15) 1 10, iO S1 [.t 10, .c zS]]) (.seq (.ops [iJ B1 [.t 4, cI 3] 12, iM 11 12]) (.ite (.t 11) (.ops [iJ (.bld [1, 1]) [cI 0, .c zU] 13, iU (.fa 11) 1 14,
 iO (.sto 2) [.t 14, .t 13], iU (.fa 17) 1 15, iO S1 [.t 15, .c zN], iU (.fa 18) 1 16, iO S1 [.t 16, cI 0], iU (.fa 19) 1 17, iO S1 [.t 17, .c zS]]) (.seq (.ops [iJ B1 [.t 4, cI 4] 19, iM 18 19])
 (.ite (.t 18) (.ops [iJ (.bld [1, 1]) [cI 0, .c zU] 20, iU (.fa 11) 1 21, iO (.sto 2) [.t 21, .t 20], iU (.fa 17) 1 22, iO S1 [.t 22, .c zN], iU (.fa 18) 1 23, iO S1 [.t 23, cI 0]])
 (.seq (.ops [iJ B1 [.t 4, cI 5] 25, iM 24 25]) (.ite (.t 24) (.ops [iJ (.bld [1, 1]) [cI 0, .c zU] 26, iU (.fa 11) 1 27, iO (.sto 2) [.t 27, .t 26], iU (.fa 17) 1 28, iO S1 [.t 28, .c zN],
 iU (.fa 19) 1 29, iO S1 [.t 29, .c zS]]) (.seq (.ops [iJ B1 [.t 4, cI 6] 31, iM 30 31]) (.ite (.t 30) (.ops [iJ (.bld [1, 1]) [cI 0, .c zU] 32, iU (.fa 11) 1 33, iO (.sto 2) [.t 33, .t 32],
 iU (.fa 16) 1 34, iO S1 [.t 34, .c zN]]) (.seq (.ops [iJ B1 [.t 4, cI 7] 36, iM 35 36]) (.ite (.t 35) (.ops [iJ (.bld [1, 1]) [cI 0, .c zU] 37, iJ (.bld [1, 1]) [cI 0, .c zU] 38, iU (.fa 11) 1 39,
 iO (.sto 2) [.t 39, .t 37], iU (.fa 16) 1 40, iO S1 [.t 40, .c zN], iU (.fa 13) 1 41, iO (.sto 2) [.t 41, .t 38], iU (.fa 15) 1 42, iO S1 [.t 42, .c zS]]) (.seq (.ops [iJ B1 [.t 4, cI 8] 44,
 iM 43 44]) (.ite (.t 43) (.ops [iU (.fa 20) 1 45, iO S1 [.t 45, cI 0]]) .skip)))))))))))))))) (.seq (.ops [iU (.ld 21 true) 1 46, iO (.sto 21) [.t 2, .t 46]]) .ret)))
theorem fn69 : fnOf Tryz.prog 69 = some (47, [.c 2 21 true], ir69) := by kernel_rfl
def ir70 : C := (.seq (.ops [iJ .mv [.c zF] 2]) (.seq (.ops [iM 3 0, iJ B8 [.t 3, cI 0] 4, iM 5 4, iV .mv 0 6 5 true, iG B7 [.t 6, cI 200] 7 5 true, iJ .pick [.t 5, .t 7, .c zF] 8, iM 2 8]) .ret))
theorem fn70 : fnOf Tryz.prog 70 = some (9, [.t 2], ir70) := by kernel_rfl
def ir71 : C := (.seq (.ops [iU .box 0 1, iJ .mv [.c zF] 2]) (.seq (.ops [iU (.fa 13) 1 3, iU L2 3 4, iJ (.bld [1, 1]) [cI 0, .c zU] 5, iD (.eqv false [.int .i64, .int .u32]) 4 5 6, iM 7 6,
 iV (.fa 2) 1 8 7 false, iV L8 8 9 7 false, iV (.fa 13) 1 10 7 false, iV L2 10 11 7 false, iG (.call 34) [.t 9, .t 11] 12 7 false, iJ .pick [.t 7, .c zT, .t 12] 13, iM 2 13]) .ret))
theorem fn71 : fnOf Tryz.prog 71 = some (14, [.t 2], ir71) := by kernel_rfl
def ir72 : C := (.seq (.ops [iJ .mv [.c zF] 2]) (.seq (.seq (.ops [iM 5 0, iU .lenS 5 6, iJ B3 [.t 6, cI 1] 7, iM 8 7, iV .mv 0 9 8 false, iV .lenS 9 10 8 false, iG B4 [.t 10, cI 12] 11 8 false,
 iJ .pick [.t 8, .c zT, .t 11] 12, iM 13 12, iV .mv 0 14 13 false, iG B1 [.t 14, .c (.pv (.s [46]))] 15 13 false, iJ .pick [.t 13, .c zT, .t 15] 16, iM 17 16, iV .mv 0 18 17 false,
 iG B1 [.t 18, .c (.pv (.s [46, 46]))] 19 17 false, iJ .pick [.t 17, .c zT, .t 19] 20]) (.ite (.t 20) (.seq (.ops [iJ .mv [.c zF] 2]) .ret) .skip)) (.seq (.seq (.ops [iM 21 0, iU .rgs 21 22])
 (.block 0 (.loop (.seq (.ops [iU .nxs 22 23, iU (.ext 0) 23 24]) (.seq (.ite (.t 24) .skip (.exit 0)) (.block 1 (.seq (.ops [iU (.ext 2) 23 25, iM 4 25]) (.seq (.ops [iM 26 4, iU (.call 100) 26 27,
 iU U1 27 28, iM 29 28, iV .mv 4 30 29 true, iG B3 [.t 30, .c (.pv (.i .i32 48))] 31 29 true, iV .mv 31 32 29 true, iV .mv 4 33 32 false, iG B4 [.t 33, .c (.pv (.i .i32 57))] 34 32 false,
 iG .pick [.t 32, .c zT, .t 34] 35 29 true, iJ .pick [.t 29, .t 35, .c zF] 36, iM 37 36, iV .mv 4 38 37 true, iG (.call 101) [.c (.pv (.s [46, 95, 45])), .t 38] 39 37 true, iV U1 39 40 37 true,
 iJ .pick [.t 37, .t 40, .c zF] 41]) (.ite (.t 41) (.seq (.ops [iJ .mv [.c zF] 2]) .ret) .skip))))))))) (.seq (.ops [iJ .mv [.c zT] 2]) .ret))))
theorem fn72 : fnOf Tryz.prog 72 = some (42, [.t 2], ir72) := by kernel_rfl
def ir73 : C := (.seq (.ops [iU .box 2 5, iJ .mv [.c zF] 6]) (.seq (.seq (.ops [iM 9 0, iU .len 9 10, iM 11 1, iD B4 10 11 12]) (.ite (.t 12) (.seq (.ops [iJ .mv [.c zF] 6]) .ret) .skip))
 (.seq (.seq (.ops [iM 13 0, iU .len 13 14, iJ .mv [cI 0] 15]) (.block 0 (.loop (.seq (.ops [iD B3 15 14 16]) (.seq (.ite (.t 16) .skip (.exit 0)) (.seq (.block 1 (.seq (.ops [iM 17 15,
 iD (.iaS 2) 13 15 18, iU L2 18 19, iJ (.new (.agg [zI, zU])) [] 8, iM 7 17, iO (.sto 2) [.t 8, .t 19]]) (.seq (.any [22, 34] [(iU L8 5 20, 1, [22, 34]), (iU L2 8 21, 1, [22, 34]),
 (iD (.call 34) 20 21 22, 3, [22, 34]), (iU U1 22 23, 0, [34]), (iM 24 23, 0, [34]), (iV .mv 7 25 24 false, 0, [22, 34]), (iG B4 [.t 25, cI 0] 26 24 false, 0, [22, 34]),
 (iV .mv 26 27 24 false, 0, [22, 34]), (iV .mv 0 28 27 true, 0, [22, 34]), (iV .mv 7 29 27 true, 0, [22, 34]), (iG B5 [.t 29, cI 1] 30 27 true, 0, [22, 34]),
 (iG (.iaS 2) [.t 28, .t 30] 31 27 true, 1, [22, 34]), (iV L2 31 32 27 true, 1, [22, 34]), (iV L2 8 33 27 true, 1, [22, 34]), (iG (.call 83) [.t 32, .t 33] 34 27 true, 3, [22, 34]),
 (iV U1 34 35 27 true, 0, [22]), (iG .pick [.t 27, .t 35, .c zF] 36 24 false, 0, [22, 34]), (iJ .pick [.t 24, .c zT, .t 36] 37, 0, [22, 34])]) (.ite (.t 37) (.seq (.ops [iJ .mv [.c zF] 6]) .ret)
 .skip)))) (.ops [iJ B2 [.t 15, cI 1] 38, iM 15 38]))))))) (.seq (.ops [iJ .mv [.c zT] 6]) .ret))))
theorem fn73 : fnOf Tryz.prog 73 = some (39, [.t 6], ir73) := by kernel_rfl
def ir74 : C := (.seq (.ops [iU .box 0 2, iJ .mv [.c zU] 4]) (.seq (.seq (.ops [iM 5 1, iJ B3 [.t 5, cI 1] 6, iM 7 6, iV .mv 1 8 7 false, iG B4 [.t 8, cI 8] 9 7 false,
 iJ .pick [.t 7, .c zT, .t 9] 10]) (.ite (.t 10) (.seq (.ops [iJ .mv [.c zU] 4]) .ret) .skip)) (.seq (.ops [iM 11 1, iJ B5 [.t 11, cI 1] 12, iD (.iaA 8 1) 2 12 13, iU L1 13 14, iM 4 14]) .ret)))
theorem fn74 : fnOf Tryz.prog 74 = some (15, [.t 4], ir74) := by kernel_rfl
def ir75 : C := (.seq (.ops [iU .box 0 2, iU .box 1 3, iJ .mv [cI 0] 4]) (.seq (.seq (.ops [iU L2 3 7, iJ (.bld [1, 1]) [cI 0, .c zU] 8, iD (.eqv false [.int .i64, .int .u32]) 7 8 9])
 (.ite (.t 9) (.seq (.ops [iJ .mv [cI 0] 4]) .ret) .skip)) (.seq (.ops [iU (.fa 8) 2 11, iU L1 11 12, iU L2 3 13, iD (.call 40) 12 13 14, iM 10 14, iU (.ext 0) 10 15, iU (.ext 1) 10 16, iM 5 15,
 iM 6 16]) (.seq (.block 0 (.seq (.ops [iM 18 6, iU U1 18 19, iM 17 19]) (.ite (.t 17) (.seq (.ops [iJ .mv [cI 2] 4]) .ret) (.seq (.ops [iU (.fa 8) 2 21, iU L1 21 22, iM 23 5, iD (.iaS 15) 22 23 24,
 iU (.fa 2) 24 25, iU L1 25 26, iU U1 26 27, iM 20 27]) (.ite (.t 20) (.seq (.ops [iJ .mv [cI 22] 4]) .ret) .skip))))) (.seq (.ops [iJ .mv [cI 0] 4]) .ret)))))
theorem fn75 : fnOf Tryz.prog 75 = some (28, [.t 4], ir75) := by kernel_rfl
def ir76 : C := (.seq (.ops [iJ .mv [.c zN] 6]) (.seq (.ops [iM 10 0, iM 11 1, iD (.slv 15 true false) 10 11 12]) (.seq (.ops [iM 13 2, iU .len 13 14, iM 7 14]) (.seq (.seq (.ops [iM 15 7,
 iJ B1 [.t 15, cI 0] 16]) (.ite (.t 16) (.seq (.ops [iM 17 0, iM 6 17]) .ret) .skip)) (.seq (.ops [iM 18 0, iU .len 18 19, iM 8 19]) (.seq (.seq (.ops [iM 20 1, iM 21 8, iD B1 20 21 22])
 (.ite (.t 22) (.seq (.ops [iM 23 0, iM 24 2, iD (.app 15 112) 23 24 25, iM 6 25]) .ret) .skip)) (.seq (.seq (.ops [iM 26 8, iM 27 7, iD B2 26 27 28, iM 29 0, iU .cap 29 30, iD B4 28 30 31])
 (.ite (.t 31) (.seq (.ops [iM 32 0, iM 33 1, iD (.slv 15 false true) 32 33 34, iM 35 8, iM 36 7, iD B2 35 36 37, iM 38 1, iD B5 37 38 39,
 iD (.apz 15 112 [.i .i64 0, .i .u32 0, .b false, .i .i64 0, .i .u32 0, .s [], .i .u32 0, .i .u32 0, .i .u32 0, .i .u32 0, .i .u32 0, .i .u32 0, .i .u32 0, .i .u32 0, .sl true 0 []]) 34 39 40,
 iM 9 40]) (.seq (.ops [iM 41 9, iM 42 1, iD (.slv 15 true false) 41 42 43, iM 44 2, iD (.cpy 15) 43 44 45]) (.seq (.any [] [(iM 46 9, 0, []), (iM 47 1, 0, []), (iM 48 7, 0, []),
 (iD B2 47 48 49, 0, []), (iD (.slv 15 true false) 46 49 50, 1, []), (iM 51 0, 0, []), (iM 52 1, 0, []), (iD (.slv 15 true false) 51 52 53, 1, []), (iD (.cpy 15) 50 53 54, 2, [])])
 (.seq (.ops [iM 55 9, iM 6 55]) .ret)))) .skip)) (.seq (.ops [iM 56 0, iM 57 8, iM 58 7, iD B2 57 58 59, iD (.slx 15) 56 59 60, iM 0 60]) (.seq (.seq (.ops [iM 61 2, iM 62 0, iM 63 1, iM 64 7,
 iD B2 63 64 65, iD (.slv 15 true false) 62 65 66, iD (.call 102) 61 66 67, iU U1 67 68]) (.ite (.t 68) (.seq (.any [] [(iM 69 0, 0, []), (iM 70 1, 0, []), (iM 71 7, 0, []), (iD B2 70 71 72, 0, []),
 (iD (.slv 15 true false) 69 72 73, 1, []), (iM 74 0, 0, []), (iM 75 1, 0, []), (iD (.slv 15 true false) 74 75 76, 1, []), (iD (.cpy 15) 73 76 77, 2, [])]) (.seq (.ops [iM 78 0, iM 79 1,
 iD (.slv 15 true false) 78 79 80, iM 81 2, iD (.cpy 15) 80 81 82]) (.seq (.ops [iM 83 0, iM 6 83]) .ret))) .skip)) (.seq (.ops [iM 84 0, iM 85 8, iD (.slv 15 true false) 84 85 86, iM 87 2,
 iD (.cpy 15) 86 87 88]) (.seq (.ops [iM 89 0, iM 90 1, iD (.slc 15 true false false) 89 90 91, iM 92 7, iD (.call 103) 91 92 93]) (.seq (.ops [iM 94 0, iM 6 94]) .ret))))))))))))
theorem fn76 : fnOf Tryz.prog 76 = some (95, [.t 6], ir76) := by kernel_rfl
def ir77 : C := (.seq (.ops [iU .box 1 3, iJ .mv [.c zN] 4]) (.seq (.ops [iM 8 0, iU (.fa 0) 3 9, iU L2 9 10, iD (.call 104) 8 10 11, iM 7 11, iU (.ext 0) 7 12, iU (.ext 1) 7 13, iM 5 12, iM 6 13])
 (.seq (.seq (.ops [iM 14 6]) (.ite (.t 14) (.seq (.ops [iM 15 0, iU (.call 42) 15 16, iM 4 16]) .ret) .skip)) (.seq (.any [18, 21, 22] [(iM 17 0, 0, [18, 21, 22]),
 (iU (.call 42) 17 18, 1, [18, 21, 22]), (iM 19 5, 0, [18, 21, 22]), (iU (.ld 15 true) 3 20, 1, [18, 21, 22]), (iU (.bsl 15) 20 21, 1, [18, 21, 22]),
 (iJ (.call 105) [.t 18, .t 19, .t 21] 22, 3, [22]), (iM 4 22, 0, [])]) .ret))))
theorem fn77 : fnOf Tryz.prog 77 = some (23, [.t 4], ir77) := by kernel_rfl
def ir78 : C := (.seq (.ops [iU .box 2 5, iJ .mv [cI 0] 6]) (.seq (.seq (.ops [iU (.fa 10) 5 10, iU L1 10 11, iJ B1 [.t 11, cI 7] 12]) (.ite (.t 12) (.seq (.any [18] [(iM 13 0, 0, [18]),
 (iU .nilc 13 14, 0, [18]), (iU (.ld 26 true) 14 15, 1, [18]), (iU (.fa 13) 5 16, 0, [18]), (iU L2 16 17, 1, [18]), (iD (.call 75) 15 17 18, 3, [18]), (iM 7 18, 0, [])]) (.seq (.ops [iM 19 7,
 iJ B6 [.t 19, cI 0] 20]) (.ite (.t 20) (.seq (.ops [iM 21 7, iM 6 21]) .ret) .skip))) .skip)) (.seq (.seq (.ops [iM 22 0, iU .nilc 22 23, iU (.fa 9) 23 24, iU L1 24 25, iU .len 25 26,
 iJ .mv [cI 0] 27]) (.block 0 (.loop (.seq (.ops [iD B3 27 26 28]) (.seq (.ite (.t 28) .skip (.exit 0)) (.seq (.block 1 (.seq (.ops [iD (.iaS 15) 25 27 29, iU (.ld 15 true) 29 30,
 iJ (.new (.agg [zI, zU, zI, zU, zS, zI, zU, zV])) [] 9, iO (.sto 15) [.t 9, .t 30]]) (.seq (.ops [iU (.fa 5) 9 31, iU L2 31 32, iU (.fa 11) 5 33, iU L2 33 34,
 iD (.eqv false [.int .i64, .int .u32]) 32 34 35, iM 36 35, iV (.fa 16) 5 37 36 true, iV L1 37 38 36 true, iV (.fa 0) 9 39 36 true, iV L2 39 40 36 true, iG (.call 106) [.t 38, .t 40] 41 36 true,
 iJ .pick [.t 36, .t 41, .c zF] 42]) (.ite (.t 42) (.any [52] [(iM 43 0, 0, [52]), (iM 44 0, 0, [52]), (iU .nilc 44 45, 0, [52]), (iU (.fa 9) 45 46, 0, [52]), (iU L1 46 47, 1, [52]),
 (iU (.fa 0) 9 48, 0, [52]), (iU L2 48 49, 1, [52]), (iU (.fa 0) 5 50, 0, [52]), (iU L2 50 51, 1, [52]), (iJ (.call 107) [.t 47, .t 49, .t 51] 52, 2, [52]), (iU .nilc 43 53, 0, []),
 (iU (.fa 9) 53 54, 0, []), (iO S1 [.t 54, .t 52], 2, [])]) .skip)))) (.ops [iJ B2 [.t 27, cI 1] 55, iM 27 55]))))))) (.seq (.seq (.ops [iU (.fa 10) 5 56, iU L1 56 57, iJ B1 [.t 57, cI 6] 58])
 (.ite (.t 58) (.seq (.any [68, 69] [(iM 59 1, 0, [68, 69]), (iM 60 1, 0, [68, 69]), (iU .nilc 60 61, 0, [68, 69]), (iU (.fa 6) 61 62, 0, [68, 69]), (iU L8 62 63, 1, [68, 69]),
 (iU (.fa 2) 5 64, 0, [68, 69]), (iU L8 64 65, 1, [68, 69]), (iU (.fa 0) 5 66, 0, [68, 69]), (iU L2 66 67, 1, [68, 69]), (iD (.call 36) 65 67 68, 1, [68, 69]), (iD (.call 108) 63 68 69, 2, [69]),
 (iU .nilc 59 70, 0, []), (iU (.fa 6) 70 71, 0, []), (iO (.sto 8) [.t 71, .t 69], 2, [])]) (.seq (.ops [iJ .mv [cI 0] 6]) .ret)) .skip)) (.seq (.any [86] [(iM 72 0, 0, [86]), (iM 73 0, 0, [86]),
 (iU .nilc 73 74, 0, [86]), (iU (.fa 9) 74 75, 0, [86]), (iU L1 75 76, 1, [86]), (iU (.fa 0) 5 77, 0, [86]), (iU L2 77 78, 1, [86]), (iU (.fa 13) 5 79, 0, [86]), (iU L2 79 80, 1, [86]),
 (iU (.fa 15) 5 81, 0, [86]), (iU L1 81 82, 1, [86]), (iU (.fa 11) 5 83, 0, [86]), (iU L2 83 84, 1, [86]), (iJ (.bld [2, 2, 1, 2, 8]) [.t 78, .t 80, .t 82, .t 84, .c zV] 85, 0, [86]),
 (iD (.call 77) 76 85 86, 2, [86]), (iU .nilc 72 87, 0, []), (iU (.fa 9) 87 88, 0, []), (iO S1 [.t 88, .t 86], 2, [])]) (.seq (.seq (.any [95] [(iM 89 1, 0, [95]), (iU .nilc 89 90, 0, [95]),
 (iU (.fa 3) 90 91, 0, [95]), (iU L2 91 92, 1, [95]), (iU (.fa 0) 5 93, 0, [95]), (iU L2 93 94, 1, [95]), (iD (.call 83) 92 94 95, 3, [95])]) (.ite (.t 95) (.anyP [] [(iM 96 1, 0, [], [], 0),
 (iM 97 1, 0, [], [], 1), (iU (.fa 0) 5 98, 0, [], [], 2), (iU L2 98 99, 1, [], [], 3), (iU (.fa 15) 5 100, 0, [], [], 4), (iU L1 100 101, 1, [], [], 5), (iU .nilc 96 102, 0, [], [], 6),
 (iU (.fa 3) 102 103, 0, [], [], 7), (iO (.sto 2) [.t 103, .t 99], 2, [], [5], 8), (iU .nilc 97 104, 0, [], [], 9), (iU (.fa 5) 104 105, 0, [], [], 10), (iO S1 [.t 105, .t 101], 2, [], [], 11)])
 .skip)) (.seq (.ops [iJ .mv [cI 0] 6]) .ret)))))))
theorem fn78 : fnOf Tryz.prog 78 = some (106, [.t 6], ir78) := by kernel_rfl
def ir79 : C := (.seq (.ops [iU .box 1 3, iJ .mv [.c zS] 4, iJ .mv [cI 0] 5]) (.seq (.seq (.ops [iU (.fa 10) 3 9, iU L1 9 10, iJ B1 [.t 10, cI 5] 11]) (.ite (.t 11) (.seq (.ops [iU (.fa 19) 3 12,
 iU L1 12 13, iM 4 13, iJ .mv [cI 0] 5]) .ret) .skip)) (.seq (.ops [iJ (.new (.agg [zI, zU])) [] 6]) (.seq (.seq (.ops [iU (.fa 17) 3 14, iU L1 14 15, iU .len 15 16, iJ B4 [.t 16, cI 0] 17])
 (.ite (.t 17) (.ops [iU (.fa 17) 3 18, iU L1 18 19, iJ (.iaS 2) [.t 19, cI 0] 20, iU L2 20 21, iO (.sto 2) [.t 6, .t 21]]) .skip)) (.seq (.ops [iM 23 0, iU L2 6 24, iD (.call 109) 23 24 25, iM 22 25,
 iU (.ext 0) 22 26, iU (.ext 1) 22 27, iM 7 26, iM 8 27]) (.seq (.seq (.ops [iM 28 8, iJ B6 [.t 28, cI 0] 29]) (.ite (.t 29) (.seq (.ops [iM 30 8, iJ .mv [.c zS] 4, iM 5 30]) .ret) .skip))
 (.seq (.seq (.ops [iU (.fa 10) 3 31, iU L1 31 32, iJ B1 [.t 32, cI 4] 33]) (.ite (.t 33) (.seq (.ops [iM 34 7, iU (.fa 18) 3 35, iU L1 35 36, iD (.call 110) 34 36 37, iU (.ext 0) 37 38,
 iU (.ext 1) 37 39, iM 4 38, iM 5 39]) .ret) .skip)) (.seq (.ops [iM 40 7, iU (.fa 18) 3 41, iU L1 41 42, iU (.fa 19) 3 43, iU L1 43 44, iJ (.call 111) [.t 40, .t 42, .t 44] 45, iU (.ext 0) 45 46,
 iU (.ext 1) 45 47, iM 4 46, iM 5 47]) .ret))))))))
theorem fn79 : fnOf Tryz.prog 79 = some (48, [.t 4, .t 5], ir79) := by kernel_rfl
def ir80 : C := (.seq (.ops [iU .box 2 5, iJ .mv [.c zN] 6, iJ .mv [cI 0] 7]) (.seq (.ops [iM 15 0, iU (.call 41) 15 16, iM 8 16]) (.seq (.seq (.ops [iM 17 1, iU .len 17 18, iJ .mv [cI 0] 19])
 (.block 0 (.loop (.seq (.ops [iD B3 19 18 20]) (.seq (.ite (.t 20) .skip (.exit 0)) (.seq (.block 1 (.seq (.ops [iD (.iaS 2) 17 19 21, iU L2 21 22, iJ (.new (.agg [zI, zU])) [] 10,
 iO (.sto 2) [.t 10, .t 22]]) (.seq (.ops [iM 24 8, iU L2 10 25, iD (.call 112) 24 25 26, iM 23 26, iU (.ext 0) 23 27, iU (.ext 1) 23 28, iM 11 27, iM 12 28]) (.seq (.seq (.ops [iM 29 12,
 iU U1 29 30]) (.ite (.t 30) (.seq (.ops [iJ .mv [.c zN] 6, iJ .mv [cI 2] 7]) .ret) .skip)) (.any [40] [(iM 31 8, 0, [40]), (iM 32 11, 0, [40]), (iM 33 8, 0, [40]), (iM 34 11, 0, [40]),
 (iD (.iaS 11) 33 34 35, 1, [40]), (iU (.fa 3) 35 36, 0, [40]), (iU L8 36 37, 1, [40]), (iU (.fa 0) 5 38, 0, [40]), (iU L2 38 39, 1, [40]), (iD (.call 36) 37 39 40, 2, [40]),
 (iD (.iaS 11) 31 32 41, 1, []), (iU (.fa 3) 41 42, 0, []), (iO (.sto 8) [.t 42, .t 40], 2, [])]))))) (.ops [iJ B2 [.t 19, cI 1] 43, iM 19 43]))))))) (.seq (.ops [iM 45 8, iU (.fa 0) 5 46,
 iU L2 46 47, iD (.call 112) 45 47 48, iM 44 48, iU (.ext 0) 44 49, iU (.ext 1) 44 50, iM 13 49, iM 14 50]) (.seq (.seq (.ops [iM 51 14]) (.ite (.t 51) (.seq (.ops [iJ .mv [.c zN] 6,
 iJ .mv [cI 11] 7]) .ret) .skip)) (.seq (.ops [iM 52 8, iM 53 13, iU (.ld 11 true) 5 54, iU (.bsl 11) 54 55, iJ (.call 113) [.t 52, .t 53, .t 55] 56, iM 6 56, iJ .mv [cI 0] 7]) .ret))))))
theorem fn80 : fnOf Tryz.prog 80 = some (57, [.t 6, .t 7], ir80) := by kernel_rfl
def ir81 : C := (.seq (.ops [iU .box 1 4, iJ .mv [cI 0] 6, iJ .mv [.c zF] 7]) (.seq (.ops [iM 12 0, iU .len 12 13, iM 8 13]) (.seq (.ops [iM 14 8, iJ .mv [cI 0] 9, iM 10 14])
 (.seq (.block 0 (.loop (.seq (.seq (.ops [iM 15 9, iM 16 10, iD B3 15 16 17]) (.ite (.t 17) .skip (.exit 0))) (.block 1 (.seq (.ops [iM 18 9, iM 19 10, iD B2 18 19 20, iU (.cvI .u64) 20 21,
 iJ (.bin .shr) [.t 21, .c (.pv (.i .u64 1))] 22, iU (.cvI .i64) 22 23, iM 11 23]) (.seq (.any [30] [(iM 24 2, 0, [30]), (iM 25 0, 0, [30]), (iM 26 11, 0, [30]), (iD (.iaS 15) 25 26 27, 1, [30]),
 (iU (.ld 15 true) 27 28, 1, [30]), (iU L2 4 29, 1, [30]), (iJ .callv [.t 24, .t 28, .t 29] 30, 1, [30]), (iJ B3 [.t 30, cI 0] 31, 0, [])]) (.ite (.t 31) (.ops [iM 32 11, iJ B2 [.t 32, cI 1] 33,
 iM 9 33]) (.ops [iM 34 11, iM 10 34])))))))) (.seq (.any [46] [(iM 35 9, 0, [46]), (iM 36 9, 0, [46]), (iM 37 8, 0, [46]), (iD B3 36 37 38, 0, [46]), (iM 39 38, 0, [46]),
 (iV .mv 2 40 39 true, 0, [46]), (iV .mv 0 41 39 true, 0, [46]), (iV .mv 9 42 39 true, 0, [46]), (iG (.iaS 15) [.t 41, .t 42] 43 39 true, 1, [46]), (iV (.ld 15 true) 43 44 39 true, 1, [46]),
 (iV L2 4 45 39 true, 1, [46]), (iG .callv [.t 40, .t 44, .t 45] 46 39 true, 1, [46]), (iG B1 [.t 46, cI 0] 47 39 true, 0, []), (iJ .pick [.t 39, .t 47, .c zF] 48, 0, [46]), (iM 6 35, 0, []),
 (iM 7 48, 0, [])]) .ret)))))
theorem fn81 : fnOf Tryz.prog 81 = some (49, [.t 6, .t 7], ir81) := by kernel_rfl
def ir82 : C := (.seq (.ops [iU .box 0 2, iU .box 1 3, iJ .mv [cI 0] 4]) (.seq (.block 0 (.seq (.ops [iU (.fa 0) 2 6, iU L2 6 7, iU L2 3 8, iD (.call 83) 7 8 9, iM 5 9])
 (.ite (.t 5) (.seq (.ops [iJ .mv [.c (.pv (.i .i64 (-1)))] 4]) .ret) (.seq (.ops [iU L2 3 11, iU (.fa 0) 2 12, iU L2 12 13, iD (.call 83) 11 13 14, iM 10 14])
 (.ite (.t 10) (.seq (.ops [iJ .mv [cI 1] 4]) .ret) .skip))))) (.seq (.ops [iJ .mv [cI 0] 4]) .ret)))
theorem fn82 : fnOf Tryz.prog 82 = some (15, [.t 4], ir82) := by kernel_rfl
def ir83 : C := (.seq (.ops [iU .box 0 2, iU .box 1 3, iJ .mv [.c zF] 4]) (.seq (.seq (.ops [iU (.fa 1) 2 5, iU L1 5 6, iU (.fa 1) 3 7, iU L1 7 8, iD B6 6 8 9])
 (.ite (.t 9) (.seq (.ops [iU (.fa 1) 2 10, iU L1 10 11, iU (.fa 1) 3 12, iU L1 12 13, iD B3 11 13 14, iM 4 14]) .ret) .skip)) (.seq (.ops [iU (.fa 0) 2 15, iU L1 15 16, iU (.fa 0) 3 17, iU L1 17 18,
 iD B3 16 18 19, iM 4 19]) .ret)))
theorem fn83 : fnOf Tryz.prog 83 = some (20, [.t 4], ir83) := by kernel_rfl
def ir97 : C := (.seq (.ops [iU .box 0 1, iJ .mv [.c zF] 2]) (.seq (.ops [iU (.fa 10) 1 3, iU L1 3 4, iJ B1 [.t 4, cI 3] 5, iM 6 5, iV (.fa 10) 1 7 6 false, iV L1 7 8 6 false,
 iG B1 [.t 8, cI 4] 9 6 false, iJ .pick [.t 6, .c zT, .t 9] 10, iM 11 10, iV (.fa 10) 1 12 11 false, iV L1 12 13 11 false, iG B1 [.t 13, cI 5] 14 11 false, iJ .pick [.t 11, .c zT, .t 14] 15, iM 2 15])
 .ret))
theorem fn97 : fnOf Tryz.prog 97 = some (16, [.t 2], ir97) := by kernel_rfl
def ir98 : C := (.seq (.ops [iU .box 1 3, iJ .mv [.c zS] 4]) (.seq (.ops [iM 13 0, iU L2 3 14, iD (.call 120) 13 14 15, iM 12 15, iU (.ext 0) 12 16, iU (.ext 1) 12 17,
 iJ (.new (.agg [zI, zU, zV, zI, zI, zU, zI, zU, zS, zN, zN, zI, zS, zI])) [] 5, iO (.sto 21) [.t 5, .t 16], iM 6 17]) (.seq (.seq (.ops [iM 18 6, iU U1 18 19])
 (.ite (.t 19) (.seq (.ops [iJ .mv [.c zS] 4]) .ret) .skip)) (.seq (.seq (.ops [iU (.fa 10) 5 20, iU L1 20 21, iJ B1 [.t 21, cI 5] 22]) (.ite (.t 22) (.seq (.ops [iU (.fa 19) 5 23, iU L1 23 24,
 iM 4 24]) .ret) .skip)) (.seq (.ops [iJ .mv [.c zS] 7]) (.seq (.seq (.ops [iU (.fa 17) 5 25, iU L1 25 26, iU .len 26 27, iJ B4 [.t 27, cI 0] 28]) (.ite (.t 28) (.ops [iM 29 0, iU (.fa 17) 5 30,
 iU L1 30 31, iJ (.iaS 2) [.t 31, cI 0] 32, iU L2 32 33, iD (.call 98) 29 33 34, iM 7 34]) .skip)) (.seq (.seq (.ops [iU (.fa 10) 5 35, iU L1 35 36, iJ B1 [.t 36, cI 4] 37])
 (.ite (.t 37) (.seq (.ops [iM 39 7, iU (.fa 18) 5 40, iU L1 40 41, iD (.call 121) 39 41 42, iM 38 42, iU (.ext 0) 38 43, iU (.ext 1) 38 44, iM 8 43, iM 9 44]) (.seq (.ops [iM 45 8, iM 4 45]) .ret))
 .skip)) (.seq (.ops [iM 47 7, iU (.fa 18) 5 48, iU L1 48 49, iU (.fa 19) 5 50, iU L1 50 51, iJ (.call 122) [.t 47, .t 49, .t 51] 52, iM 46 52, iU (.ext 0) 46 53, iU (.ext 1) 46 54, iM 10 53,
 iM 11 54]) (.seq (.ops [iM 55 10, iM 4 55]) .ret)))))))))
theorem fn98 : fnOf Tryz.prog 98 = some (56, [.t 4], ir98) := by kernel_rfl
def ir99 : C := (.seq (.ops [iU .box 2 5, iJ .mv [.c zN] 6, iJ .mv [cI 0] 7]) (.seq (.seq (.ops [iJ .mv [cI 0] 8]) (.block 0 (.loop (.seq (.seq (.ops [iM 16 8, iM 17 1, iU .len 17 18, iD B3 16 18 19])
 (.ite (.t 19) .skip (.exit 0))) (.seq (.block 1 (.seq (.ops [iM 23 0, iM 24 1, iM 25 8, iD (.iaS 2) 24 25 26, iU L2 26 27, iD (.call 27) 23 27 28, iM 22 28, iU (.ext 0) 22 29, iU (.ext 1) 22 30,
 iM 9 29, iM 10 30]) (.seq (.ops [iM 31 10, iJ B6 [.t 31, cI 0] 32, iM 33 32, iV .mv 1 34 33 false, iV .mv 8 35 33 false, iG (.iaS 2) [.t 34, .t 35] 36 33 false, iV (.fa 0) 36 37 33 false,
 iV L1 37 38 33 false, iG B1 [.t 38, cI 0] 39 33 false, iV .mv 39 40 33 false, iV .mv 1 41 40 true, iV .mv 8 42 40 true, iG (.iaS 2) [.t 41, .t 42] 43 40 true, iV (.fa 1) 43 44 40 true,
 iV L1 44 45 40 true, iG B1 [.t 45, .c zU] 46 40 true, iG .pick [.t 40, .t 46, .c zF] 47 33 false, iV .mv 47 48 33 false, iV .mv 0 49 48 true, iV .mv 1 50 48 true, iV .mv 8 51 48 true,
 iG (.iaS 2) [.t 50, .t 51] 52 48 true, iV L2 52 53 48 true, iG (.call 123) [.t 49, .t 53] 54 48 true, iV U1 54 55 48 true, iG .pick [.t 48, .t 55, .c zF] 56 33 false,
 iJ .pick [.t 33, .c zT, .t 56] 57]) (.ite (.t 57) (.seq (.ops [iJ .mv [.c zN] 6, iJ .mv [cI 2] 7]) .ret) .skip)))) (.ops [iM 20 8, iJ B2 [.t 20, cI 1] 21, iM 8 21])))))) (.seq (.seq (.ops [iM 58 0,
 iU (.fa 0) 5 59, iU L2 59 60, iD (.call 123) 58 60 61]) (.ite (.t 61) (.seq (.ops [iJ .mv [.c zN] 6, iJ .mv [cI 11] 7]) .ret) .skip)) (.seq (.ops [iJ .mv [.c zN] 11]) (.seq (.ops [iJ .mv [.c zF] 12])
 (.seq (.seq (.ops [iJ .mv [cI 0] 13]) (.block 2 (.loop (.seq (.seq (.ops [iM 62 13, iM 63 0, iU .len 63 64, iD B3 62 64 65]) (.ite (.t 65) .skip (.exit 2)))
 (.seq (.block 3 (.seq (.seq (.any [78] [(iM 68 12, 0, [78]), (iU U1 68 69, 0, [78]), (iM 70 69, 0, [78]), (iV (.fa 0) 5 71 70 true, 0, [78]), (iV L2 71 72 70 true, 1, [78]),
 (iV .mv 0 73 70 true, 0, [78]), (iV .mv 13 74 70 true, 0, [78]), (iG (.iaS 11) [.t 73, .t 74] 75 70 true, 1, [78]), (iV (.fa 0) 75 76 70 true, 0, [78]), (iV L2 76 77 70 true, 1, [78]),
 (iG (.call 31) [.t 72, .t 77] 78 70 true, 3, [78]), (iJ .pick [.t 70, .t 78, .c zF] 79, 0, [])]) (.ite (.t 79) (.seq (.ops [iM 80 11, iU (.ld 11 true) 5 81, iU (.bsl 11) 81 82,
 iD (.app 11 64) 80 82 83, iM 11 83]) (.ops [iJ .mv [.c zT] 12])) .skip)) (.seq (.ops [iM 84 0, iM 85 13, iD (.iaS 11) 84 85 86, iU (.ld 11 true) 86 87, iJ (.new (.agg [zI, zU, zS, zV])) [] 14,
 iO (.sto 11) [.t 14, .t 87]]) (.seq (.seq (.ops [iJ .mv [cI 0] 15]) (.block 4 (.loop (.seq (.seq (.ops [iM 88 15, iM 89 1, iU .len 89 90, iD B3 88 90 91]) (.ite (.t 91) .skip (.exit 4)))
 (.seq (.block 5 (.seq (.any [] [(iM 94 1, 0, []), (iM 95 15, 0, []), (iD (.iaS 2) 94 95 96, 1, []), (iU L2 96 97, 1, []), (iU (.fa 0) 14 98, 0, []), (iU L2 98 99, 1, []),
 (iD (.eqv false [.int .i64, .int .u32]) 97 99 100, 0, [])]) (.ite (.t 100) (.ops [iU (.fa 3) 14 101, iU L8 101 102, iU (.fa 0) 5 103, iU L2 103 104, iD (.call 20) 102 104 105, iU (.fa 3) 14 106,
 iO (.sto 8) [.t 106, .t 105]]) .skip))) (.ops [iM 92 15, iJ B2 [.t 92, cI 1] 93, iM 15 93])))))) (.ops [iM 107 11, iU (.ld 11 true) 14 108, iU (.bsl 11) 108 109, iD (.app 11 64) 107 109 110,
 iM 11 110]))))) (.ops [iM 66 13, iJ B2 [.t 66, cI 1] 67, iM 13 67])))))) (.seq (.seq (.ops [iM 111 12, iU U1 111 112]) (.ite (.t 112) (.ops [iM 113 11, iU (.ld 11 true) 5 114, iU (.bsl 11) 114 115,
 iD (.app 11 64) 113 115 116, iM 11 116]) .skip)) (.seq (.ops [iM 117 11, iM 6 117, iJ .mv [cI 0] 7]) .ret))))))))
theorem fn99 : fnOf Tryz.prog 99 = some (118, [.t 6, .t 7], ir99) := by kernel_rfl
def ir100 : C := (.seq (.ops [iJ .mv [.c zF] 2]) (.seq (.ops [iM 3 0, iJ B8 [.t 3, .c (.pv (.i .i32 97))] 4, iM 5 4, iV .mv 0 6 5 true, iG B7 [.t 6, .c (.pv (.i .i32 122))] 7 5 true,
 iJ .pick [.t 5, .t 7, .c zF] 8, iM 9 8, iV .mv 0 10 9 false, iG B8 [.t 10, .c (.pv (.i .i32 65))] 11 9 false, iV .mv 11 12 9 false, iV .mv 0 13 12 true,
 iG B7 [.t 13, .c (.pv (.i .i32 90))] 14 12 true, iG .pick [.t 12, .t 14, .c zF] 15 9 false, iJ .pick [.t 9, .c zT, .t 15] 16, iM 2 16]) .ret))
theorem fn100 : fnOf Tryz.prog 100 = some (17, [.t 2], ir100) := by kernel_rfl
def ir101 : C := (.seq (.ops [iJ .mv [.c zF] 4]) (.seq (.ops [iM 5 0, iM 6 1, iD (.call 124) 5 6 7, iJ B8 [.t 7, cI 0] 8, iM 4 8]) .ret))
theorem fn101 : fnOf Tryz.prog 101 = some (9, [.t 4], ir101) := by kernel_rfl
def ir104 : C := (.seq (.ops [iU .box 1 3, iJ .mv [cI 0] 4, iJ .mv [.c zF] 5]) (.seq (.ops [iM 6 0, iU L2 3 7, iJ (.call 126) [.t 6, .t 7, .c (.fn (.func 127) [])] 8, iU (.ext 0) 8 9,
 iU (.ext 1) 8 10, iM 4 9, iM 5 10]) .ret))
theorem fn104 : fnOf Tryz.prog 104 = some (11, [.t 4, .t 5], ir104) := by kernel_rfl
def ir105 : C := (.seq (.ops [iJ .mv [.c zN] 6]) (.seq (.ops [iM 10 0, iM 11 1, iD (.slv 15 true false) 10 11 12]) (.seq (.ops [iM 13 2, iU .len 13 14, iM 7 14]) (.seq (.seq (.ops [iM 15 7,
 iJ B1 [.t 15, cI 0] 16]) (.ite (.t 16) (.seq (.ops [iM 17 0, iM 6 17]) .ret) .skip)) (.seq (.ops [iM 18 0, iU .len 18 19, iM 8 19]) (.seq (.seq (.ops [iM 20 1, iM 21 8, iD B1 20 21 22])
 (.ite (.t 22) (.seq (.ops [iM 23 0, iM 24 2, iD (.app 15 96) 23 24 25, iM 6 25]) .ret) .skip)) (.seq (.seq (.ops [iM 26 8, iM 27 7, iD B2 26 27 28, iM 29 0, iU .cap 29 30, iD B4 28 30 31])
 (.ite (.t 31) (.seq (.ops [iM 32 0, iM 33 1, iD (.slv 15 false true) 32 33 34, iM 35 8, iM 36 7, iD B2 35 36 37, iM 38 1, iD B5 37 38 39,
 iD (.apz 15 96 [.i .i64 0, .i .u32 0, .i .i64 0, .i .u32 0, .s [], .i .i64 0, .i .u32 0, .i .u32 0, .i .u32 0, .i .u32 0, .i .u32 0, .i .u32 0, .i .u32 0, .i .u32 0, .i .u32 0]) 34 39 40, iM 9 40])
 (.seq (.ops [iM 41 9, iM 42 1, iD (.slv 15 true false) 41 42 43, iM 44 2, iD (.cpy 15) 43 44 45]) (.seq (.any [] [(iM 46 9, 0, []), (iM 47 1, 0, []), (iM 48 7, 0, []), (iD B2 47 48 49, 0, []),
 (iD (.slv 15 true false) 46 49 50, 1, []), (iM 51 0, 0, []), (iM 52 1, 0, []), (iD (.slv 15 true false) 51 52 53, 1, []), (iD (.cpy 15) 50 53 54, 2, [])]) (.seq (.ops [iM 55 9, iM 6 55]) .ret))))
 .skip)) (.seq (.ops [iM 56 0, iM 57 8, iM 58 7, iD B2 57 58 59, iD (.slx 15) 56 59 60, iM 0 60]) (.seq (.seq (.ops [iM 61 2, iM 62 0, iM 63 1, iM 64 7, iD B2 63 64 65,
 iD (.slv 15 true false) 62 65 66, iD (.call 129) 61 66 67, iU U1 67 68]) (.ite (.t 68) (.seq (.any [] [(iM 69 0, 0, []), (iM 70 1, 0, []), (iM 71 7, 0, []), (iD B2 70 71 72, 0, []),
 (iD (.slv 15 true false) 69 72 73, 1, []), (iM 74 0, 0, []), (iM 75 1, 0, []), (iD (.slv 15 true false) 74 75 76, 1, []), (iD (.cpy 15) 73 76 77, 2, [])]) (.seq (.ops [iM 78 0, iM 79 1,
 iD (.slv 15 true false) 78 79 80, iM 81 2, iD (.cpy 15) 80 81 82]) (.seq (.ops [iM 83 0, iM 6 83]) .ret))) .skip)) (.seq (.ops [iM 84 0, iM 85 8, iD (.slv 15 true false) 84 85 86, iM 87 2,
 iD (.cpy 15) 86 87 88]) (.seq (.ops [iM 89 0, iM 90 1, iD (.slc 15 true false false) 89 90 91, iM 92 7, iD (.call 130) 91 92 93]) (.seq (.ops [iM 94 0, iM 6 94]) .ret))))))))))))
theorem fn105 : fnOf Tryz.prog 105 = some (95, [.t 6], ir105) := by kernel_rfl
def ir106 : C := (.seq (.ops [iU .box 1 3, iJ .mv [.c zF] 4]) (.seq (.ops [iM 5 0, iU L2 3 6, iD (.call 131) 5 6 7, iJ B8 [.t 7, cI 0] 8, iM 4 8]) .ret))
theorem fn106 : fnOf Tryz.prog 106 = some (9, [.t 4], ir106) := by kernel_rfl
def ir107 : C := (.seq (.ops [iU .box 1 4, iU .box 2 5, iJ .mv [.c zN] 6]) (.seq (.ops [iM 10 0, iU (.call 42) 10 11, iM 7 11]) (.seq (.seq (.ops [iM 13 0, iU L2 4 14, iD (.call 104) 13 14 15,
 iM 12 15, iU (.ext 0) 12 16, iU (.ext 1) 12 17, iM 8 16, iM 9 17]) (.seq (.ops [iM 18 9]) (.ite (.t 18) (.any [27] [(iM 19 7, 0, [27]), (iM 20 8, 0, [27]), (iM 21 7, 0, [27]), (iM 22 8, 0, [27]),
 (iD (.iaS 15) 21 22 23, 1, [27]), (iU (.fa 7) 23 24, 0, [27]), (iU L8 24 25, 1, [27]), (iU L2 5 26, 1, [27]), (iD (.call 36) 25 26 27, 2, [27]), (iD (.iaS 15) 19 20 28, 1, []),
 (iU (.fa 7) 28 29, 0, []), (iO (.sto 8) [.t 29, .t 27], 2, [])]) .skip))) (.seq (.ops [iM 30 7, iM 6 30]) .ret))))
theorem fn107 : fnOf Tryz.prog 107 = some (31, [.t 6], ir107) := by kernel_rfl
def ir108 : C := (.seq (.ops [iU .box 0 2, iU .box 1 3, iJ (.new zV) [] 4]) (.seq (.seq (.ops [iU L8 3 7, iJ .mv [cI 0] 8]) (.block 0 (.loop (.seq (.ops [iJ B3 [.t 8, cI 8] 9])
 (.seq (.ite (.t 9) .skip (.exit 0)) (.seq (.block 1 (.seq (.ops [iM 10 8, iD (.ixA 8 1 false) 7 8 11, iM 5 10, iM 6 11]) (.ops [iM 12 5, iM 13 5, iD (.iaA 8 1) 2 13 14, iU L1 14 15, iM 16 6,
 iD .mx 15 16 17, iD (.iaA 8 1) 2 12 18, iO S1 [.t 18, .t 17]]))) (.ops [iJ B2 [.t 8, cI 1] 19, iM 8 19]))))))) (.seq (.ops [iU L8 2 20, iO (.sto 8) [.t 4, .t 20]]) .ret)))
theorem fn108 : fnOf Tryz.prog 108 = some (21, [.c 4 8 true], ir108) := by kernel_rfl
def ir109 : C := (.seq (.ops [iU .box 1 3, iJ .mv [.c zS] 4, iJ .mv [cI 0] 5]) (.seq (.seq (.ops [iU L2 3 8, iJ (.bld [1, 1]) [cI 0, .c zU] 9, iD (.eqv false [.int .i64, .int .u32]) 8 9 10])
 (.ite (.t 10) (.seq (.ops [iJ .mv [.c zS] 4, iJ .mv [cI 0] 5]) .ret) .skip)) (.seq (.ops [iM 12 0, iU L2 3 13, iD (.call 112) 12 13 14, iM 11 14, iU (.ext 0) 11 15, iU (.ext 1) 11 16, iM 6 15,
 iM 7 16]) (.seq (.seq (.ops [iM 17 7, iU U1 17 18]) (.ite (.t 18) (.seq (.ops [iJ .mv [.c zS] 4, iJ .mv [cI 2] 5]) .ret) .skip)) (.seq (.ops [iM 19 0, iM 20 6, iD (.iaS 11) 19 20 21,
 iU (.fa 2) 21 22, iU L1 22 23, iM 4 23, iJ .mv [cI 0] 5]) .ret)))))
theorem fn109 : fnOf Tryz.prog 109 = some (24, [.t 4, .t 5], ir109) := by kernel_rfl
def ir110 : C := (.seq (.ops [iJ .mv [.c zS] 4, iJ .mv [cI 0] 5]) (.seq (.seq (.ops [iM 6 1, iJ B3 [.t 6, cI 0] 7, iM 8 7, iV .mv 1 9 8 false, iG B4 [.t 9, cI 200] 10 8 false,
 iJ .pick [.t 8, .c zT, .t 10] 11]) (.ite (.t 11) (.seq (.ops [iJ .mv [.c zS] 4, iJ .mv [cI 4] 5]) .ret) .skip)) (.seq (.seq (.ops [iM 12 1, iM 13 0, iU .lenS 13 14, iD B3 12 14 15])
 (.ite (.t 15) (.seq (.ops [iM 16 0, iM 17 1, iD (.sls false true) 16 17 18, iM 4 18, iJ .mv [cI 0] 5]) .ret) .skip)) (.seq (.ops [iM 19 0, iM 20 1, iM 21 0, iU .lenS 21 22, iD B5 20 22 23,
 iD (.mks [.i .u8 0] 1) 23 23 24, iU .b2s 24 25, iD B2 19 25 26, iM 4 26, iJ .mv [cI 0] 5]) .ret))))
theorem fn110 : fnOf Tryz.prog 110 = some (27, [.t 4, .t 5], ir110) := by kernel_rfl
def ir111 : C := (.seq (.ops [iJ .mv [.c zS] 6, iJ .mv [cI 0] 7]) (.seq (.seq (.ops [iM 9 1, iJ B3 [.t 9, cI 0] 10, iM 11 10, iV .mv 1 12 11 false, iG B4 [.t 12, cI 200] 13 11 false,
 iJ .pick [.t 11, .c zT, .t 13] 14, iM 15 14, iV .mv 0 16 15 false, iV .lenS 16 17 15 false, iG B4 [.t 17, cI 200] 18 15 false, iJ .pick [.t 15, .c zT, .t 18] 19, iM 20 19, iV .mv 2 21 20 false,
 iV .lenS 21 22 20 false, iV .mv 1 23 20 false, iG B5 [cI 200, .t 23] 24 20 false, iG B4 [.t 22, .t 24] 25 20 false, iJ .pick [.t 20, .c zT, .t 25] 26]) (.ite (.t 26) (.seq (.ops [iJ .mv [.c zS] 6,
 iJ .mv [cI 4] 7]) .ret) .skip)) (.seq (.ops [iM 27 0, iU .s2b 27 28, iM 8 28]) (.seq (.block 0 (.loop (.seq (.seq (.ops [iM 29 8, iU .len 29 30, iM 31 1, iM 32 2, iU .lenS 32 33, iD B2 31 33 34,
 iD B3 30 34 35]) (.ite (.t 35) .skip (.exit 0))) (.block 1 (.ops [iM 36 8, iJ (.bsl 1) [.c (.pv (.i .u8 0))] 37, iD (.app 1 1) 36 37 38, iM 8 38]))))) (.seq (.ops [iM 39 8, iM 40 1,
 iD (.slv 1 true false) 39 40 41, iM 42 2, iD (.cpy 1) 41 42 43]) (.seq (.ops [iM 44 8, iU .b2s 44 45, iM 6 45, iJ .mv [cI 0] 7]) .ret))))))
theorem fn111 : fnOf Tryz.prog 111 = some (46, [.t 6, .t 7], ir111) := by kernel_rfl
def ir112 : C := (.seq (.ops [iU .box 1 3, iJ .mv [cI 0] 4, iJ .mv [.c zF] 5]) (.seq (.seq (.ops [iM 8 0, iU .len 8 9, iJ .mv [cI 0] 10]) (.block 0 (.loop (.seq (.ops [iD B3 10 9 11])
 (.seq (.ite (.t 11) .skip (.exit 0)) (.seq (.block 1 (.seq (.ops [iM 12 10, iD (.iaS 11) 8 10 13, iU (.ld 11 true) 13 14, iJ (.new (.agg [zI, zU, zS, zV])) [] 7, iM 6 12, iO (.sto 11) [.t 7, .t 14]])
 (.seq (.seq (.ops [iU (.fa 0) 7 15, iU L2 15 16, iU L2 3 17, iD (.eqv false [.int .i64, .int .u32]) 16 17 18]) (.ite (.t 18) (.seq (.ops [iM 19 6, iM 4 19, iJ .mv [.c zT] 5]) .ret) .skip))
 (.seq (.ops [iU L2 3 20, iU (.fa 0) 7 21, iU L2 21 22, iD (.call 83) 20 22 23]) (.ite (.t 23) (.seq (.ops [iM 24 6, iM 4 24, iJ .mv [.c zF] 5]) .ret) .skip))))) (.ops [iJ B2 [.t 10, cI 1] 25,
 iM 10 25]))))))) (.seq (.ops [iM 26 0, iU .len 26 27, iM 4 27, iJ .mv [.c zF] 5]) .ret)))
theorem fn112 : fnOf Tryz.prog 112 = some (28, [.t 4, .t 5], ir112) := by kernel_rfl
def ir113 : C := (.seq (.ops [iJ .mv [.c zN] 6]) (.seq (.ops [iM 10 0, iM 11 1, iD (.slv 11 true false) 10 11 12]) (.seq (.ops [iM 13 2, iU .len 13 14, iM 7 14]) (.seq (.seq (.ops [iM 15 7,
 iJ B1 [.t 15, cI 0] 16]) (.ite (.t 16) (.seq (.ops [iM 17 0, iM 6 17]) .ret) .skip)) (.seq (.ops [iM 18 0, iU .len 18 19, iM 8 19]) (.seq (.seq (.ops [iM 20 1, iM 21 8, iD B1 20 21 22])
 (.ite (.t 22) (.seq (.ops [iM 23 0, iM 24 2, iD (.app 11 64) 23 24 25, iM 6 25]) .ret) .skip)) (.seq (.seq (.ops [iM 26 8, iM 27 7, iD B2 26 27 28, iM 29 0, iU .cap 29 30, iD B4 28 30 31])
 (.ite (.t 31) (.seq (.ops [iM 32 0, iM 33 1, iD (.slv 11 false true) 32 33 34, iM 35 8, iM 36 7, iD B2 35 36 37, iM 38 1, iD B5 37 38 39,
 iD (.apz 11 64 [.i .i64 0, .i .u32 0, .s [], .i .u32 0, .i .u32 0, .i .u32 0, .i .u32 0, .i .u32 0, .i .u32 0, .i .u32 0, .i .u32 0]) 34 39 40, iM 9 40]) (.seq (.ops [iM 41 9, iM 42 1,
 iD (.slv 11 true false) 41 42 43, iM 44 2, iD (.cpy 11) 43 44 45]) (.seq (.any [] [(iM 46 9, 0, []), (iM 47 1, 0, []), (iM 48 7, 0, []), (iD B2 47 48 49, 0, []),
 (iD (.slv 11 true false) 46 49 50, 1, []), (iM 51 0, 0, []), (iM 52 1, 0, []), (iD (.slv 11 true false) 51 52 53, 1, []), (iD (.cpy 11) 50 53 54, 2, [])]) (.seq (.ops [iM 55 9, iM 6 55]) .ret))))
 .skip)) (.seq (.ops [iM 56 0, iM 57 8, iM 58 7, iD B2 57 58 59, iD (.slx 11) 56 59 60, iM 0 60]) (.seq (.seq (.ops [iM 61 2, iM 62 0, iM 63 1, iM 64 7, iD B2 63 64 65,
 iD (.slv 11 true false) 62 65 66, iD (.call 132) 61 66 67, iU U1 67 68]) (.ite (.t 68) (.seq (.any [] [(iM 69 0, 0, []), (iM 70 1, 0, []), (iM 71 7, 0, []), (iD B2 70 71 72, 0, []),
 (iD (.slv 11 true false) 69 72 73, 1, []), (iM 74 0, 0, []), (iM 75 1, 0, []), (iD (.slv 11 true false) 74 75 76, 1, []), (iD (.cpy 11) 73 76 77, 2, [])]) (.seq (.ops [iM 78 0, iM 79 1,
 iD (.slv 11 true false) 78 79 80, iM 81 2, iD (.cpy 11) 80 81 82]) (.seq (.ops [iM 83 0, iM 6 83]) .ret))) .skip)) (.seq (.ops [iM 84 0, iM 85 8, iD (.slv 11 true false) 84 85 86, iM 87 2,
 iD (.cpy 11) 86 87 88]) (.seq (.ops [iM 89 0, iM 90 1, iD (.slc 11 true false false) 89 90 91, iM 92 7, iD (.call 133) 91 92 93]) (.seq (.ops [iM 94 0, iM 6 94]) .ret))))))))))))
theorem fn113 : fnOf Tryz.prog 113 = some (95, [.t 6], ir113) := by kernel_rfl
def ir120 : C := (.seq (.ops [iU .box 1 3, iJ (.new (.agg [zI, zU, zV, zI, zI, zU, zI, zU, zS, zN, zN, zI, zS, zI])) [] 4, iJ .mv [.c zF] 5]) (.seq (.seq (.ops [iJ .mv [cI 0] 6])
 (.block 0 (.loop (.seq (.seq (.ops [iM 7 6, iM 8 0, iU .len 8 9, iD B3 7 9 10]) (.ite (.t 10) .skip (.exit 0))) (.seq (.block 1 (.seq (.any [] [(iM 13 0, 0, []), (iM 14 6, 0, []),
 (iD (.iaS 21) 13 14 15, 1, []), (iU (.fa 0) 15 16, 0, []), (iU L2 16 17, 1, []), (iU L2 3 18, 1, []), (iD (.eqv false [.int .i64, .int .u32]) 17 18 19, 0, [])]) (.ite (.t 19) (.seq (.ops [iM 20 0,
 iM 21 6, iD (.iaS 21) 20 21 22, iU (.ld 21 true) 22 23, iO (.sto 21) [.t 4, .t 23], iJ .mv [.c zT] 5]) .ret) .skip))) (.ops [iM 11 6, iJ B2 [.t 11, cI 1] 12, iM 6 12]))))))
 (.seq (.ops [iJ (.bld [2, 8, 1, 2, 2, 1, 1, 1, 1, 1, 1]) [.c (.agg [zI, zU]), .c zV, cI 0, .c (.agg [zI, zU]), .c (.agg [zI, zU]), .c zS, .c zN, .c zN, cI 0, .c zS, cI 0] 24,
 iO (.sto 21) [.t 4, .t 24], iJ .mv [.c zF] 5]) .ret)))
theorem fn120 : fnOf Tryz.prog 120 = some (25, [.c 4 21 true, .t 5], ir120) := by kernel_rfl
def ir121 : C := (.seq (.ops [iJ .mv [.c zS] 4, iJ .mv [cI 0] 5]) (.seq (.seq (.ops [iM 6 1, iJ B3 [.t 6, cI 0] 7, iM 8 7, iV .mv 1 9 8 false, iG B4 [.t 9, cI 200] 10 8 false,
 iJ .pick [.t 8, .c zT, .t 10] 11]) (.ite (.t 11) (.seq (.ops [iJ .mv [.c zS] 4, iJ .mv [cI 4] 5]) .ret) .skip)) (.seq (.ops [iM 12 0, iM 13 1, iM 14 0, iU .lenS 14 15, iD B5 13 15 16,
 iU (.call 138) 16 17, iD B2 12 17 18, iM 0 18]) (.seq (.ops [iM 19 0, iM 20 1, iD (.sls false true) 19 20 21, iM 4 21, iJ .mv [cI 0] 5]) .ret))))
theorem fn121 : fnOf Tryz.prog 121 = some (22, [.t 4, .t 5], ir121) := by kernel_rfl
def ir122 : C := (.seq (.ops [iJ .mv [.c zS] 6, iJ .mv [cI 0] 7]) (.seq (.seq (.ops [iM 8 1, iJ B3 [.t 8, cI 0] 9, iM 10 9, iV .mv 1 11 10 false, iG B4 [.t 11, cI 200] 12 10 false,
 iJ .pick [.t 10, .c zT, .t 12] 13, iM 14 13, iV .mv 0 15 14 false, iV .lenS 15 16 14 false, iG B4 [.t 16, cI 200] 17 14 false, iJ .pick [.t 14, .c zT, .t 17] 18, iM 19 18, iV .mv 1 20 19 false,
 iV .mv 2 21 19 false, iV .lenS 21 22 19 false, iG B2 [.t 20, .t 22] 23 19 false, iG B4 [.t 23, cI 200] 24 19 false, iJ .pick [.t 19, .c zT, .t 24] 25]) (.ite (.t 25) (.seq (.ops [iJ .mv [.c zS] 6,
 iJ .mv [cI 4] 7]) .ret) .skip)) (.seq (.ops [iM 26 0, iM 27 1, iM 28 2, iU .lenS 28 29, iD B2 27 29 30, iM 31 0, iU .lenS 31 32, iD B5 30 32 33, iU (.call 138) 33 34, iD B2 26 34 35, iM 0 35])
 (.seq (.any [] [(iM 36 0, 0, []), (iM 37 1, 0, []), (iD (.sls false true) 36 37 38, 0, []), (iM 39 2, 0, []), (iD B2 38 39 40, 0, []), (iM 41 0, 0, []), (iM 42 1, 0, []), (iM 43 2, 0, []),
 (iU .lenS 43 44, 0, []), (iD B2 42 44 45, 0, []), (iD (.sls true false) 41 45 46, 0, []), (iD B2 40 46 47, 0, []), (iM 6 47, 0, []), (iJ .mv [cI 0] 7, 0, [])]) .ret))))
theorem fn122 : fnOf Tryz.prog 122 = some (48, [.t 6, .t 7], ir122) := by kernel_rfl
def ir123 : C := (.seq (.ops [iU .box 1 3, iJ .mv [.c zF] 4]) (.seq (.seq (.ops [iJ .mv [cI 0] 5]) (.block 0 (.loop (.seq (.seq (.ops [iM 6 5, iM 7 0, iU .len 7 8, iD B3 6 8 9]) (.ite (.t 9) .skip
 (.exit 0))) (.seq (.block 1 (.seq (.any [] [(iM 12 0, 0, []), (iM 13 5, 0, []), (iD (.iaS 11) 12 13 14, 1, []), (iU (.fa 0) 14 15, 0, []), (iU L2 15 16, 1, []), (iU L2 3 17, 1, []),
 (iD (.eqv false [.int .i64, .int .u32]) 16 17 18, 0, [])]) (.ite (.t 18) (.seq (.ops [iJ .mv [.c zT] 4]) .ret) .skip))) (.ops [iM 10 5, iJ B2 [.t 10, cI 1] 11, iM 5 11]))))))
 (.seq (.ops [iJ .mv [.c zF] 4]) .ret)))
theorem fn123 : fnOf Tryz.prog 123 = some (19, [.t 4], ir123) := by kernel_rfl
def ir124 : C := (.seq (.ops [iJ .mv [cI 0] 4]) (.block 0 (.seq (.ops [iM 161 1, iJ B7 [.c (.pv (.i .i32 0)), .t 161] 162, iM 163 162, iV .mv 1 164 163 true,
 iG B3 [.t 164, .c (.pv (.i .i32 128))] 165 163 true, iJ .pick [.t 163, .t 165, .c zF] 166, iM 160 166]) (.ite (.t 160) (.seq (.ops [iM 167 0, iM 168 1, iU (.cvI .u8) 168 169,
 iD (.call 139) 167 169 170, iM 4 170]) .ret) (.seq (.ops [iM 172 1, iJ B1 [.t 172, .c (.pv (.i .i32 65533))] 173, iM 171 173]) (.ite (.t 171) (.seq (.seq (.ops [iM 174 0, iU .rgs 174 175])
 (.block 9 (.loop (.seq (.ops [iU .nxs 175 176, iU (.ext 0) 176 177]) (.seq (.ite (.t 177) .skip (.exit 9)) (.block 10 (.seq (.ops [iU (.ext 1) 176 178, iU (.ext 2) 176 179, iM 5 178, iM 6 179])
 (.seq (.ops [iM 180 6, iJ B1 [.t 180, .c (.pv (.i .i32 65533))] 181]) (.ite (.t 181) (.seq (.ops [iM 182 5, iM 4 182]) .ret) .skip))))))))) (.seq (.ops [iJ .mv [.c (.pv (.i .i64 (-1)))] 4]) .ret))
 (.seq (.ops [iM 184 1, iU (.call 140) 184 185, iU U1 185 186, iM 183 186]) (.ite (.t 183) (.seq (.ops [iJ .mv [.c (.pv (.i .i64 (-1)))] 4]) .ret) (.seq (.ops [iM 17 1, iU .r2s 17 18, iM 7 18])
 (.seq (.ops [iM 19 7, iU .lenS 19 20, iJ B5 [.t 20, cI 1] 21, iM 8 21]) (.seq (.ops [iM 22 8, iM 9 22]) (.seq (.ops [iJ .mv [cI 0] 10]) (.seq (.block 1 (.loop (.seq (.seq (.ops [iM 23 9, iM 24 0,
 iU .lenS 24 25, iD B3 23 25 26]) (.ite (.t 26) .skip (.exit 1))) (.block 2 (.seq (.seq (.any [] [(iM 27 0, 0, []), (iM 28 9, 0, []), (iD .ixS 27 28 29, 0, []), (iM 30 7, 0, []), (iM 31 8, 0, []),
 (iD .ixS 30 31 32, 0, []), (iD B6 29 32 33, 0, [])]) (.ite (.t 33) (.seq (.any [41] [(iM 34 0, 0, [41]), (iM 35 9, 0, [41]), (iJ B2 [.t 35, cI 1] 36, 0, [41]),
 (iD (.sls true false) 34 36 37, 0, [41]), (iM 38 7, 0, [41]), (iM 39 8, 0, [41]), (iD .ixS 38 39 40, 0, [41]), (iD (.call 139) 37 40 41, 3, [41]), (iM 11 41, 0, [])]) (.seq (.seq (.ops [iM 42 11,
 iJ B3 [.t 42, cI 0] 43]) (.ite (.t 43) (.seq (.ops [iJ .mv [.c (.pv (.i .i64 (-1)))] 4]) .ret) .skip)) (.ops [iM 44 9, iM 45 11, iJ B2 [.t 45, cI 1] 46, iD B2 44 46 47, iM 9 47]))) .skip))
 (.seq (.seq (.ops [iJ .mv [cI 1] 12]) (.block 3 (.loop (.seq (.seq (.ops [iM 48 12, iM 49 7, iU .lenS 49 50, iD B3 48 50 51]) (.ite (.t 51) .skip (.exit 3)))
 (.seq (.block 4 (.seq (.any [] [(iM 54 0, 0, []), (iM 55 9, 0, []), (iM 56 12, 0, []), (iD B5 55 56 57, 0, []), (iD .ixS 54 57 58, 0, []), (iM 59 7, 0, []), (iM 60 8, 0, []), (iM 61 12, 0, []),
 (iD B5 60 61 62, 0, []), (iD .ixS 59 62 63, 0, []), (iD B6 58 63 64, 0, [])]) (.ite (.t 64) .bad .skip))) (.ops [iM 52 12, iJ B2 [.t 52, cI 1] 53, iM 12 53])))))) (.seq (.seq (.ops [iM 65 9, iM 66 8,
 iD B5 65 66 67, iM 4 67]) .ret) (.seq .skip (.seq (.ops [iM 68 10, iJ B2 [.t 68, cI 1] 69, iM 10 69]) (.seq (.ops [iM 70 9, iJ B2 [.t 70, cI 1] 71, iM 9 71]) (.seq (.ops [iJ .mv [.c zT] 72,
 iV .mv 10 73 72 true, iV .mv 9 74 72 true, iV (.call 141) 74 75 72 true, iG B4 [.t 73, .t 75] 76 72 true, iJ .pick [.t 72, .t 76, .c zF] 77, iM 78 77, iV .mv 9 79 78 true, iV .mv 0 80 78 true,
 iV .lenS 80 81 78 true, iG B3 [.t 79, .t 81] 82 78 true, iJ .pick [.t 78, .t 82, .c zF] 83, iM 84 83, iG .mv [.c zF] 85 84 false, iV .mv 10 86 85 true, iV .mv 9 87 85 true,
 iG (.bin .shr) [.t 87, .c (.pv (.i .u64 4))] 88 85 true, iG B2 [cI 4, .t 88] 89 85 true, iG B8 [.t 86, .t 89] 90 85 true, iG .pick [.t 85, .t 90, .c zF] 91 84 false, iV .mv 91 92 84 false,
 iV .mv 9 93 92 true, iV .mv 0 94 92 true, iV .lenS 94 95 92 true, iG B3 [.t 93, .t 95] 96 92 true, iG .pick [.t 92, .t 96, .c zF] 97 84 false, iJ .pick [.t 84, .c zT, .t 97] 98]) (.ite (.t 98) .bad
 .skip)))))))))))) (.seq (.seq (.ops [iJ .mv [.c (.pv (.i .i64 (-1)))] 4]) .ret) (.seq .skip (.seq (.ite (.c zT) (.seq (.ops [iM 99 0, iM 100 9, iM 101 8, iD B5 100 101 102,
 iD (.sls true false) 99 102 103, iM 104 1, iU .r2s 104 105, iD (.call 142) 103 105 106, iM 13 106]) (.seq (.ops [iM 107 13, iJ B8 [.t 107, cI 0] 108]) (.ite (.t 108) (.seq (.ops [iM 109 9, iM 110 13,
 iD B2 109 110 111, iM 112 8, iD B5 111 112 113, iM 4 113]) .ret) .skip))) (.seq (.ops [iM 114 7, iM 115 8, iD .ixS 114 115 116, iM 14 116]) (.seq (.ops [iM 117 7, iM 118 8, iJ B5 [.t 118, cI 1] 119,
 iD .ixS 117 119 120, iM 15 120]) (.seq .skip (.block 5 (.loop (.seq (.seq (.ops [iM 121 9, iM 122 0, iU .lenS 122 123, iD B3 121 123 124]) (.ite (.t 124) .skip (.exit 5)))
 (.seq (.block 6 (.seq (.ops [iM 127 0, iM 128 9, iD .ixS 127 128 129, iM 130 14, iD B1 129 130 131, iM 132 131, iV .mv 0 133 132 true, iV .mv 9 134 132 true, iG B5 [.t 134, cI 1] 135 132 true,
 iG .ixS [.t 133, .t 135] 136 132 true, iV .mv 15 137 132 true, iG B1 [.t 136, .t 137] 138 132 true, iJ .pick [.t 132, .t 138, .c zF] 139]) (.ite (.t 139) (.seq (.seq (.ops [iJ .mv [cI 2] 16])
 (.block 7 (.loop (.seq (.seq (.ops [iM 140 16, iM 141 7, iU .lenS 141 142, iD B3 140 142 143]) (.ite (.t 143) .skip (.exit 7))) (.seq (.block 8 (.seq (.any [] [(iM 146 0, 0, []), (iM 147 9, 0, []),
 (iM 148 16, 0, []), (iD B5 147 148 149, 0, []), (iD .ixS 146 149 150, 0, []), (iM 151 7, 0, []), (iM 152 8, 0, []), (iM 153 16, 0, []), (iD B5 152 153 154, 0, []), (iD .ixS 151 154 155, 0, []),
 (iD B6 150 155 156, 0, [])]) (.ite (.t 156) (.exit 6) .skip))) (.ops [iM 144 16, iJ B2 [.t 144, cI 1] 145, iM 16 145])))))) (.seq (.ops [iM 157 9, iM 158 8, iD B5 157 158 159, iM 4 159]) .ret))
 .skip))) (.ops [iM 125 9, iJ B2 [.t 125, cI 1] 126, iM 9 126]))))))))) (.seq (.ops [iJ .mv [.c (.pv (.i .i64 (-1)))] 4]) .ret)))))))))))))))))
theorem fn124 : fnOf Tryz.prog 124 = some (187, [.t 4], ir124) := by kernel_rfl
def ir126 : C := (.seq (.ops [iU .box 1 4, iJ .mv [cI 0] 6, iJ .mv [.c zF] 7]) (.seq (.ops [iM 12 0, iU .len 12 13, iM 8 13]) (.seq (.ops [iM 14 8, iJ .mv [cI 0] 9, iM 10 14])
 (.seq (.block 0 (.loop (.seq (.seq (.ops [iM 15 9, iM 16 10, iD B3 15 16 17]) (.ite (.t 17) .skip (.exit 0))) (.block 1 (.seq (.ops [iM 18 9, iM 19 10, iD B2 18 19 20, iU (.cvI .u64) 20 21,
 iJ (.bin .shr) [.t 21, .c (.pv (.i .u64 1))] 22, iU (.cvI .i64) 22 23, iM 11 23]) (.seq (.any [30] [(iM 24 2, 0, [30]), (iM 25 0, 0, [30]), (iM 26 11, 0, [30]), (iD (.iaS 15) 25 26 27, 1, [30]),
 (iU (.ld 15 true) 27 28, 1, [30]), (iU L2 4 29, 1, [30]), (iJ .callv [.t 24, .t 28, .t 29] 30, 1, [30]), (iJ B3 [.t 30, cI 0] 31, 0, [])]) (.ite (.t 31) (.ops [iM 32 11, iJ B2 [.t 32, cI 1] 33,
 iM 9 33]) (.ops [iM 34 11, iM 10 34])))))))) (.seq (.any [46] [(iM 35 9, 0, [46]), (iM 36 9, 0, [46]), (iM 37 8, 0, [46]), (iD B3 36 37 38, 0, [46]), (iM 39 38, 0, [46]),
 (iV .mv 2 40 39 true, 0, [46]), (iV .mv 0 41 39 true, 0, [46]), (iV .mv 9 42 39 true, 0, [46]), (iG (.iaS 15) [.t 41, .t 42] 43 39 true, 1, [46]), (iV (.ld 15 true) 43 44 39 true, 1, [46]),
 (iV L2 4 45 39 true, 1, [46]), (iG .callv [.t 40, .t 44, .t 45] 46 39 true, 1, [46]), (iG B1 [.t 46, cI 0] 47 39 true, 0, []), (iJ .pick [.t 39, .t 47, .c zF] 48, 0, [46]), (iM 6 35, 0, []),
 (iM 7 48, 0, [])]) .ret)))))
theorem fn126 : fnOf Tryz.prog 126 = some (49, [.t 6, .t 7], ir126) := by kernel_rfl
def ir127 : C := (.seq (.ops [iU .box 0 2, iU .box 1 3, iJ .mv [cI 0] 4]) (.seq (.ops [iU (.fa 0) 2 5, iU L2 5 6, iU L2 3 7, iD (.call 128) 6 7 8, iM 4 8]) .ret))
theorem fn127 : fnOf Tryz.prog 127 = some (9, [.t 4], ir127) := by kernel_rfl
def ir128 : C := (.seq (.ops [iU .box 0 2, iU .box 1 3, iJ .mv [cI 0] 4]) (.seq (.block 0 (.seq (.ops [iU L2 2 6, iU L2 3 7, iD (.call 83) 6 7 8, iM 5 8])
 (.ite (.t 5) (.seq (.ops [iJ .mv [.c (.pv (.i .i64 (-1)))] 4]) .ret) (.seq (.ops [iU L2 3 10, iU L2 2 11, iD (.call 83) 10 11 12, iM 9 12]) (.ite (.t 9) (.seq (.ops [iJ .mv [cI 1] 4]) .ret)
 .skip))))) (.seq (.ops [iJ .mv [cI 0] 4]) .ret)))
theorem fn128 : fnOf Tryz.prog 128 = some (13, [.t 4], ir128) := by kernel_rfl
def ir131 : C := (.seq (.ops [iU .box 1 3, iJ .mv [cI 0] 4]) (.seq (.seq (.ops [iM 6 0, iU .len 6 7, iJ .mv [cI 0] 8]) (.block 0 (.loop (.seq (.ops [iD B3 8 7 9]) (.seq (.ite (.t 9) .skip (.exit 0))
 (.seq (.block 1 (.seq (.ops [iM 10 8, iM 5 10]) (.seq (.any [] [(iU L2 3 11, 1, []), (iM 12 0, 0, []), (iM 13 5, 0, []), (iD (.iaS 2) 12 13 14, 1, []), (iU L2 14 15, 1, []),
 (iD (.eqv false [.int .i64, .int .u32]) 11 15 16, 0, [])]) (.ite (.t 16) (.seq (.ops [iM 17 5, iM 4 17]) .ret) .skip)))) (.ops [iJ B2 [.t 8, cI 1] 18, iM 8 18])))))))
 (.seq (.ops [iJ .mv [.c (.pv (.i .i64 (-1)))] 4]) .ret)))
theorem fn131 : fnOf Tryz.prog 131 = some (19, [.t 4], ir131) := by kernel_rfl
def ir138 : C := (.seq (.ops [iJ .mv [.c zS] 2]) (.seq (.ops [iJ .mv [.c zS] 3]) (.seq (.seq (.ops [iJ .mv [cI 0] 4]) (.block 0 (.loop (.seq (.seq (.ops [iM 5 4, iM 6 0, iD B3 5 6 7])
 (.ite (.t 7) .skip (.exit 0))) (.seq (.block 1 (.ops [iM 10 3, iJ B2 [.t 10, .c (.pv (.s [0]))] 11, iM 3 11])) (.ops [iM 8 4, iJ B2 [.t 8, cI 1] 9, iM 4 9])))))) (.seq (.ops [iM 12 3, iM 2 12])
 .ret))))
theorem fn138 : fnOf Tryz.prog 138 = some (13, [.t 2], ir138) := by kernel_rfl
def ir139 : C := (.seq (.ops [iJ .mv [cI 0] 4]) (.seq (.ops [iM 5 0, iM 6 1, iD (.call 146) 5 6 7, iM 4 7]) .ret))
theorem fn139 : fnOf Tryz.prog 139 = some (8, [.t 4], ir139) := by kernel_rfl
def ir140 : C := (.seq (.ops [iJ .mv [.c zF] 2]) (.seq (.block 0 (.seq (.ops [iM 4 0, iJ B7 [.c (.pv (.i .i32 0)), .t 4] 5, iM 6 5, iV .mv 0 7 6 true, iG B3 [.t 7, .c (.pv (.i .i32 55296))] 8 6 true,
 iJ .pick [.t 6, .t 8, .c zF] 9, iM 3 9]) (.ite (.t 3) (.seq (.ops [iJ .mv [.c zT] 2]) .ret) (.seq (.ops [iM 11 0, iJ B3 [.c (.pv (.i .i32 57343)), .t 11] 12, iM 13 12, iV .mv 0 14 13 true,
 iG B7 [.t 14, .c (.pv (.i .i32 1114111))] 15 13 true, iJ .pick [.t 13, .t 15, .c zF] 16, iM 10 16]) (.ite (.t 10) (.seq (.ops [iJ .mv [.c zT] 2]) .ret) .skip))))) (.seq (.ops [iJ .mv [.c zF] 2])
 .ret)))
theorem fn140 : fnOf Tryz.prog 140 = some (17, [.t 2], ir140) := by kernel_rfl
def ir146 : C := (.seq (.ops [iJ .mv [cI 0] 4]) (.seq (.ops [iM 5 0, iM 6 1, iD (.call 149) 5 6 7, iM 4 7]) .ret))
theorem fn146 : fnOf Tryz.prog 146 = some (8, [.t 4], ir146) := by kernel_rfl
end Go.Proofs.YthhomcfimdkfhaaGreat.Fw
