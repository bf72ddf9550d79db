/- The functions of the program in the small language, each checked against the program. -/
import Derived.Test.YthmjebkldgdeiaaFwD
import Derived.Test.YthmjebkldgdeiaaProg
import Derived.ProofKit
set_option linter.unusedVariables false
set_option linter.unusedSimpArgs false
set_option linter.unusedSectionVars false
set_option maxRecDepth 100000
namespace Go.Proofs.Ythmjebkldgdeiaa.Fw
open Go.Proofs
theorem mixed : Try.prog.follows .mixedOrders = true := by kernel_rfl
def ir3 : C := (.seq (.ops [iU .box 1 3, iJ (.new zF) [] 4]) (.seq (.seq (.ops [iJ (.call 7) [] 12, iU U1 12 13, iM 14 13, iV .mv 0 15 14 false, iV (.call 8) 15 16 14 false, iV U1 16 17 14 false,
 iJ .pick [.t 14, .c zT, .t 17] 18]) (.ite (.t 18) (.seq (.ops [iJ (.call 7) [] 19, iO S1 [.t 4, .t 19]]) .ret) .skip)) (.seq (.ops [iJ (.bld [8, 1, 1, 8, 8]) [.c zV, .c zN, .c zN, .c zW, .c zX] 20,
 iU (.call 9) 20 21, iM 5 21]) (.seq (.seq (.ops [iM 22 0, iU .len 22 23, iJ .mv [cI 0] 24]) (.block 0 (.loop (.seq (.ops [iD B3 24 23 25]) (.seq (.ite (.t 25) .skip (.exit 0))
 (.seq (.block 1 (.seq (.ops [iD (.iaS 21) 22 24 26, iU (.ld 21 true) 26 27, iJ (.new (.agg [zI, zU, zV, zI, zI, zU, zI, zU, zS, zN, zN, zI, zS, zI])) [] 7, iO (.sto 21) [.t 7, .t 27]])
 (.ops [iM 28 5, iU (.ld 21 true) 7 29, iD (.call 10) 28 29 30]))) (.ops [iJ B2 [.t 24, cI 1] 31, iM 24 31]))))))) (.seq (.any [34, 35] [(iU L8 3 32, 1, [34, 35]), (iM 33 5, 0, [34, 35]),
 (iU (.call 12) 33 34, 1, [34, 35]), (iD (.call 11) 32 34 35, 3, [35]), (iO (.sto 8) [.t 3, .t 35], 2, [])]) (.seq (.ops [iM 37 5, iU L8 3 38, iD (.call 13) 37 38 39, iM 36 39, iU (.ext 0) 36 40,
 iU (.ext 1) 36 41, iM 8 40, iM 9 41]) (.seq (.seq (.ops [iM 42 9, iJ B6 [.t 42, cI 0] 43, iM 44 43, iV .mv 8 45 44 false, iV (.eqv false [.other]) 45 46 44 false, iJ .pick [.t 44, .c zT, .t 46] 47])
 (.ite (.t 47) (.seq (.ops [iO S1 [.t 4, .c zF]]) .ret) .skip)) (.seq (.ops [iU L8 3 48, iJ (.new zV) [] 10, iO (.sto 8) [.t 10, .t 48]]) (.seq (.seq (.ops [iM 49 8])
 (.block 2 (.rng (.t 49) [50] (.ops [iJ (.new (.agg [zI, zU, zV, zI, zI, zU, zI, zU, zS, zN, zN, zI, zS, zI])) [] 11, iO (.sto 21) [.t 11, .t 50]])
 (.block 3 (.seq (.seq (.any [54, 63] [(iU L8 3 51, 1, [54, 63]), (iU (.fa 0) 11 52, 0, [54, 63]), (iU L2 52 53, 1, [54, 63]), (iD (.call 14) 51 53 54, 3, [54, 63]), (iM 55 54, 0, [63]),
 (iV (.fa 0) 11 56 55 false, 0, [54, 63]), (iV (.fa 1) 56 57 55 false, 0, [54, 63]), (iV L1 57 58 55 false, 1, [54, 63]), (iV L8 10 59 55 false, 1, [54, 63]), (iV (.fa 0) 11 60 55 false, 0, [54, 63]),
 (iV (.fa 0) 60 61 55 false, 0, [54, 63]), (iV L1 61 62 55 false, 1, [54, 63]), (iG (.call 15) [.t 59, .t 62] 63 55 false, 1, [54, 63]), (iG B2 [.t 63, .c (.pv (.i .u32 1))] 64 55 false, 0, [54]),
 (iG B6 [.t 58, .t 64] 65 55 false, 0, [54, 63]), (iJ .pick [.t 55, .c zT, .t 65] 66, 0, [54, 63])]) (.ite (.t 66) (.seq (.ops [iO S1 [.t 4, .c zF]]) .ret) .skip)) (.ops [iU L8 10 67,
 iU (.fa 0) 11 68, iU L2 68 69, iD (.call 16) 67 69 70, iO (.sto 8) [.t 10, .t 70]])))))) (.seq (.any [73] [(iU L8 10 71, 1, [73]), (iM 72 5, 0, [73]), (iU (.call 12) 72 73, 1, [73]),
 (iD (.eqv false [.int .u32, .int .u32, .int .u32, .int .u32, .int .u32, .int .u32, .int .u32, .int .u32]) 71 73 74, 0, []), (iO S1 [.t 4, .t 74], 2, [])]) .ret))))))))))
theorem fn3 : fnOf Try.prog 3 = some (75, [.c 4 1 false], ir3) := by kernel_rfl
def ir4 : C := (.seq (.ops [iU .box 1 4, iU .box 2 5, iJ .mv [.c zF] 6]) (.seq (.seq (.ops [iJ (.call 7) [] 15, iU U1 15 16, iM 17 16, iV .mv 0 18 17 false, iV (.call 8) 18 19 17 false,
 iV U1 19 20 17 false, iJ .pick [.t 17, .c zT, .t 20] 21]) (.ite (.t 21) (.seq (.ops [iJ (.call 7) [] 22, iM 6 22]) .ret) .skip)) (.seq (.seq (.ops [iM 23 0, iU .len 23 24, iJ .mv [cI 0] 25])
 (.block 0 (.loop (.seq (.ops [iD B3 25 24 26]) (.seq (.ite (.t 26) .skip (.exit 0)) (.seq (.block 1 (.seq (.ops [iM 27 25, iD (.iaS 21) 23 25 28, iU (.ld 21 true) 28 29,
 iJ (.new (.agg [zI, zU, zV, zI, zI, zU, zI, zU, zS, zN, zN, zI, zS, zI])) [] 8, iM 7 27, iO (.sto 21) [.t 8, .t 29]]) (.seq (.ops [iM 30 0, iM 31 7, iD (.slc 21 false true false) 30 31 32,
 iU .len 32 33, iJ .mv [cI 0] 34]) (.block 2 (.loop (.seq (.ops [iD B3 34 33 35]) (.seq (.ite (.t 35) .skip (.exit 2)) (.seq (.block 3 (.seq (.ops [iD (.iaS 21) 32 34 36, iU (.ld 21 true) 36 37,
 iJ (.new (.agg [zI, zU, zV, zI, zI, zU, zI, zU, zS, zN, zN, zI, zS, zI])) [] 10, iO (.sto 21) [.t 10, .t 37]]) (.seq (.ops [iU (.fa 0) 10 38, iU L2 38 39, iU (.fa 0) 8 40, iU L2 40 41,
 iD (.eqv false [.int .i64, .int .u32]) 39 41 42]) (.ite (.t 42) (.seq (.ops [iJ .mv [.c zT] 6]) .ret) .skip)))) (.ops [iJ B2 [.t 34, cI 1] 43, iM 34 43]))))))))) (.ops [iJ B2 [.t 25, cI 1] 44,
 iM 25 44]))))))) (.seq (.ops [iJ (.bld [8, 1, 1, 8, 8]) [.c zV, .c zN, .c zN, .c zW, .c zX] 45, iU (.call 9) 45 46, iJ (.bld [8, 1, 1, 8, 8]) [.c zV, .c zN, .c zN, .c zW, .c zX] 47,
 iU (.call 9) 47 48, iM 11 46, iM 12 48]) (.seq (.seq (.ops [iM 49 0, iU .len 49 50, iJ .mv [cI 0] 51]) (.block 4 (.loop (.seq (.ops [iD B3 51 50 52]) (.seq (.ite (.t 52) .skip (.exit 4))
 (.seq (.block 5 (.seq (.ops [iD (.iaS 21) 49 51 53, iU (.ld 21 true) 53 54, iJ (.new (.agg [zI, zU, zV, zI, zI, zU, zI, zU, zS, zN, zN, zI, zS, zI])) [] 14, iO (.sto 21) [.t 14, .t 54]])
 (.seq (.seq (.ops [iU L8 4 55, iU (.fa 0) 14 56, iU L2 56 57, iD (.call 14) 55 57 58]) (.ite (.t 58) (.ops [iM 59 11, iU (.ld 21 true) 14 60, iD (.call 10) 59 60 61]) .skip)) (.seq (.ops [iU L8 5 62,
 iU (.fa 0) 14 63, iU L2 63 64, iD (.call 14) 62 64 65]) (.ite (.t 65) (.ops [iM 66 12, iU (.ld 21 true) 14 67, iD (.call 10) 66 67 68]) .skip))))) (.ops [iJ B2 [.t 51, cI 1] 69, iM 51 69])))))))
 (.seq (.seq (.ops [iM 70 11, iM 71 12, iD (.call 17) 70 71 72, iU U1 72 73, iM 74 73, iV .mv 12 75 74 false, iV .mv 11 76 74 false, iG (.call 17) [.t 75, .t 76] 77 74 false, iV U1 77 78 74 false,
 iJ .pick [.t 74, .c zT, .t 78] 79]) (.ite (.t 79) (.seq (.ops [iJ .mv [.c zF] 6]) .ret) .skip)) (.seq (.ops [iM 80 11, iU (.call 12) 80 81, iM 82 12, iU (.call 12) 82 83,
 iD (.eqv false [.int .u32, .int .u32, .int .u32, .int .u32, .int .u32, .int .u32, .int .u32, .int .u32]) 81 83 84, iM 85 84, iV .mv 11 86 85 true, iV (.call 19) 86 87 85 true, iV .mv 12 88 85 true,
 iV (.call 19) 88 89 85 true, iG (.call 18) [.t 87, .t 89] 90 85 true, iJ .pick [.t 85, .t 90, .c zF] 91, iM 6 91]) .ret)))))))
theorem fn4 : fnOf Try.prog 4 = some (92, [.t 6], ir4) := by kernel_rfl
def ir7 : C := (.seq (.ops [iJ (.new zF) [] 0]) (.seq (.ops [iJ (.bld [8, 1, 1, 8, 8]) [.c zV, .c zN, .c zN, .c zW, .c zX] 6, iU (.call 9) 6 7, iM 1 7]) (.seq (.seq (.ops [iM 8 1,
 iU (.eqv false []) 8 9, iM 10 9, iV .mv 1 11 10 false, iG (.bld [1, 1]) [cI 1, .c (.pv (.i .u32 1))] 12 10 false,
 iG (.bld [2, 8, 1, 2, 2, 1, 1, 1, 1, 1, 1]) [.t 12, .c zV, cI 1, .c (.agg [zI, zU]), .c (.agg [zI, zU]), .c (.pv (.s [97])), .c zN, .c zN, cI 0, .c zS, cI 0] 13 10 false,
 iG (.call 10) [.t 11, .t 13] 14 10 false, iG B6 [.t 14, cI 0] 15 10 false, iJ .pick [.t 10, .c zT, .t 15] 16]) (.ite (.t 16) (.seq (.ops [iO S1 [.t 0, .c zF]]) .ret) .skip)) (.seq (.ops [iM 18 1,
 iJ (.bldV 8 1) [.c zU, .c zU, .c zU, .c zU, .c zU, .c zU, .c zU, .c zU] 19, iD (.call 13) 18 19 20, iM 17 20, iU (.ext 0) 17 21, iU (.ext 1) 17 22, iM 2 21, iM 3 22]) (.seq (.seq (.ops [iM 23 3,
 iJ B6 [.t 23, cI 0] 24, iM 25 24, iV .mv 2 26 25 false, iV (.eqv false [.other]) 26 27 25 false, iJ .pick [.t 25, .c zT, .t 27] 28]) (.ite (.t 28) (.seq (.ops [iO S1 [.t 0, .c zF]]) .ret) .skip))
 (.seq (.ops [iJ (.new zI) [] 4, iO S1 [.t 4, cI 0]]) (.seq (.seq (.ops [iM 29 2]) (.block 0 (.rng (.t 29) [30] (.ops [iJ (.new (.agg [zI, zU, zV, zI, zI, zU, zI, zU, zS, zN, zN, zI, zS, zI])) [] 5,
 iO (.sto 21) [.t 5, .t 30]]) (.block 1 (.seq (.ops [iU L1 4 31, iJ B2 [.t 31, cI 1] 32, iO S1 [.t 4, .t 32]]) (.seq (.ops [iU (.fa 15) 5 33, iU L1 33 34, iJ B6 [.t 34, .c (.pv (.s [97]))] 35])
 (.ite (.t 35) (.seq (.ops [iO S1 [.t 0, .c zF]]) .ret) .skip))))))) (.seq (.ops [iU L1 4 36, iJ B1 [.t 36, cI 1] 37, iM 38 37, iV .mv 1 39 38 true, iV (.call 27) 39 40 38 true,
 iG B1 [.t 40, cI 1] 41 38 true, iJ .pick [.t 38, .t 41, .c zF] 42, iM 43 42, iV .mv 1 44 43 true, iV (.call 12) 44 45 43 true,
 iG (.bldV 8 1) [.c (.pv (.i .u32 1)), .c zU, .c zU, .c zU, .c zU, .c zU, .c zU, .c zU] 46 43 true,
 iG (.eqv false [.int .u32, .int .u32, .int .u32, .int .u32, .int .u32, .int .u32, .int .u32, .int .u32]) [.t 45, .t 46] 47 43 true, iJ .pick [.t 43, .t 47, .c zF] 48, iO S1 [.t 0, .t 48]])
 .ret))))))))
theorem fn7 : fnOf Try.prog 7 = some (49, [.c 0 1 false], ir7) := by kernel_rfl
def ir8 : C := (.seq (.ops [iJ .mv [.c zF] 2]) (.seq (.seq (.ops [iM 5 0, iU .len 5 6, iJ B4 [.t 6, cI 25] 7]) (.ite (.t 7) (.seq (.ops [iJ .mv [.c zF] 2]) .ret) .skip)) (.seq (.seq (.ops [iM 8 0,
 iU .len 8 9, iJ .mv [cI 0] 10]) (.block 0 (.loop (.seq (.ops [iD B3 10 9 11]) (.seq (.ite (.t 11) .skip (.exit 0)) (.seq (.block 1 (.seq (.ops [iD (.iaS 21) 8 10 12, iU (.ld 21 true) 12 13,
 iJ (.new (.agg [zI, zU, zV, zI, zI, zU, zI, zU, zS, zN, zN, zI, zS, zI])) [] 4, iO (.sto 21) [.t 4, .t 13]]) (.seq (.ops [iU (.fa 15) 4 14, iU L1 14 15, iU .lenS 15 16, iJ B4 [.t 16, cI 30] 17,
 iM 18 17, iV (.fa 19) 4 19 18 false, iV L1 19 20 18 false, iV .lenS 20 21 18 false, iG B4 [.t 21, cI 250] 22 18 false, iJ .pick [.t 18, .c zT, .t 22] 23, iM 24 23, iV (.fa 16) 4 25 24 false,
 iV L1 25 26 24 false, iV .len 26 27 24 false, iG B4 [.t 27, cI 10] 28 24 false, iJ .pick [.t 24, .c zT, .t 28] 29, iM 30 29, iV (.fa 17) 4 31 30 false, iV L1 31 32 30 false, iV .len 32 33 30 false,
 iG B4 [.t 33, cI 10] 34 30 false, iJ .pick [.t 30, .c zT, .t 34] 35]) (.ite (.t 35) (.seq (.ops [iJ .mv [.c zF] 2]) .ret) .skip)))) (.ops [iJ B2 [.t 10, cI 1] 36, iM 10 36])))))))
 (.seq (.ops [iJ .mv [.c zT] 2]) .ret))))
theorem fn8 : fnOf Try.prog 8 = some (37, [.t 2], ir8) := by kernel_rfl
def ir9 : C := (.seq (.ops [iU .box 0 1, iJ .mv [.c (.pv (.v (.pointer none)))] 2]) (.seq (.any [4, 8] [(iU (.ld 26 true) 1 3, 1, [4, 8]), (iU (.call 28) 3 4, 1, [4, 8]), (iU (.fa 0) 1 5, 0, [4, 8]),
 (iU L8 5 6, 1, [4, 8]), (iJ (.bld [26, 8, 1]) [.t 4, .t 6, .c zN] 7, 0, [8]), (iU .box 7 8, 1, [4, 8]), (iM 2 8, 0, [])]) .ret))
theorem fn9 : fnOf Try.prog 9 = some (9, [.t 2], ir9) := by kernel_rfl
def ir10 : C := (.seq (.ops [iU .box 1 3, iJ .mv [cI 0] 4]) (.seq (.seq (.ops [iM 7 0, iU (.eqv false []) 7 8]) (.ite (.t 8) (.seq (.ops [iJ .mv [cI 3] 4]) .ret) .skip))
 (.seq (.any [15, 5] [(iM 10 0, 0, [15, 5]), (iU .nilc 10 11, 0, [15, 5]), (iU (.fa 0) 11 12, 0, [15, 5]), (iU (.ld 26 true) 12 13, 1, [15, 5]), (iU (.ld 21 true) 3 14, 1, [15, 5]),
 (iD (.call 29) 13 14 15, 1, [15, 5]), (iM 9 15, 0, [5]), (iU (.ext 0) 9 16, 0, [15, 5]), (iU (.ext 1) 9 17, 0, [15, 5]), (iJ (.new (.agg [zV, zN, zN, zW, zX])) [] 5, 1, [15, 5]),
 (iO (.sto 26) [.t 5, .t 16], 2, []), (iM 6 17, 0, [])]) (.seq (.seq (.ops [iM 18 6, iJ B6 [.t 18, cI 0] 19]) (.ite (.t 19) (.seq (.ops [iM 20 6, iM 4 20]) .ret) .skip)) (.seq (.ops [iM 21 0,
 iU (.ld 26 true) 5 22, iU .nilc 21 23, iU (.fa 0) 23 24, iO (.sto 26) [.t 24, .t 22]]) (.seq (.any [30, 32, 33, 34] [(iM 25 0, 0, [30, 32, 33, 34]), (iM 26 0, 0, [30, 32, 33, 34]),
 (iU .nilc 26 27, 0, [30, 32, 33, 34]), (iU (.fa 34) 27 28, 0, [30, 32, 33, 34]), (iU L1 28 29, 1, [30, 32, 33, 34]), (iU (.call 30) 29 30, 1, [30, 32, 33, 34]),
 (iU (.ld 21 true) 3 31, 1, [30, 32, 33, 34]), (iU (.call 31) 31 32, 2, [32, 33, 34]), (iU (.bsl 21) 32 33, 1, [30, 33, 34]), (iD (.app 21 184) 30 33 34, 2, [34]), (iU .nilc 25 35, 0, []),
 (iU (.fa 34) 35 36, 0, []), (iO S1 [.t 36, .t 34], 2, [])]) (.seq (.ops [iJ .mv [cI 0] 4]) .ret)))))))
theorem fn10 : fnOf Try.prog 10 = some (37, [.t 4], ir10) := by kernel_rfl
def ir11 : C := (.seq (.ops [iU .box 0 2, iU .box 1 3, iJ (.new zV) [] 4]) (.seq (.ops [iJ (.bldV 8 1) [.c zU, .c zU, .c zU, .c zU, .c zU, .c zU, .c zU, .c zU] 7, iJ (.new zV) [] 5,
 iO (.sto 8) [.t 5, .t 7]]) (.seq (.seq (.ops [iJ .mv [cI 0] 6]) (.block 0 (.loop (.seq (.seq (.ops [iM 8 6, iJ B3 [.t 8, cI 8] 9]) (.ite (.t 9) .skip (.exit 0))) (.seq (.block 1 (.seq (.ops [iM 12 6,
 iM 13 6, iD (.iaA 8 1) 2 13 14, iU L1 14 15, iD (.iaA 8 1) 5 12 16, iO S1 [.t 16, .t 15]]) (.seq (.any [] [(iM 17 6, 0, []), (iD (.iaA 8 1) 3 17 18, 0, []), (iU L1 18 19, 1, []), (iM 20 6, 0, []),
 (iD (.iaA 8 1) 2 20 21, 0, []), (iU L1 21 22, 1, []), (iD B3 19 22 23, 0, [])]) (.ite (.t 23) (.ops [iM 24 6, iM 25 6, iD (.iaA 8 1) 3 25 26, iU L1 26 27, iD (.iaA 8 1) 5 24 28,
 iO S1 [.t 28, .t 27]]) .skip)))) (.ops [iM 10 6, iJ B2 [.t 10, cI 1] 11, iM 6 11])))))) (.seq (.ops [iU L8 5 29, iO (.sto 8) [.t 4, .t 29]]) .ret))))
theorem fn11 : fnOf Try.prog 11 = some (30, [.c 4 8 true], ir11) := by kernel_rfl
def ir12 : C := (.seq (.ops [iJ (.new zV) [] 2]) (.seq (.seq (.ops [iM 3 0, iU (.eqv false []) 3 4])
 (.ite (.t 4) (.seq (.ops [iJ (.bldV 8 1) [.c zU, .c zU, .c zU, .c zU, .c zU, .c zU, .c zU, .c zU] 5, iO (.sto 8) [.t 2, .t 5]]) .ret) .skip)) (.seq (.ops [iM 6 0, iU .nilc 6 7, iU (.fa 0) 7 8,
 iU (.fa 0) 8 9, iU L8 9 10, iO (.sto 8) [.t 2, .t 10]]) .ret)))
theorem fn12 : fnOf Try.prog 12 = some (11, [.c 2 8 true], ir12) := by kernel_rfl
def ir13 : C := (.seq (.ops [iU .box 1 3, iJ .mv [.c (.pv (.v .nilFunc))] 4, iJ .mv [cI 0] 5]) (.seq (.seq (.ops [iM 7 0, iU (.eqv false []) 7 8])
 (.ite (.t 8) (.seq (.ops [iJ .mv [.c (.pv (.v .nilFunc))] 4, iJ .mv [cI 3] 5]) .ret) .skip)) (.seq (.seq (.any [14] [(iM 9 0, 0, [14]), (iU .nilc 9 10, 0, [14]), (iU (.fa 26) 10 11, 0, [14]),
 (iU L8 11 12, 1, [14]), (iU L8 3 13, 1, [14]), (iD (.call 32) 12 13 14, 3, [14]), (iU U1 14 15, 0, [])]) (.ite (.t 15) (.seq (.ops [iJ .mv [.c (.pv (.v .nilFunc))] 4, iJ .mv [cI 11] 5]) .ret) .skip))
 (.seq (.ops [iM 16 0, iU .nilc 16 17, iU (.fa 34) 17 18, iU L1 18 19, iU (.call 30) 19 20, iJ (.new zN) [] 6, iO S1 [.t 6, .t 20]]) (.seq (.ops [iD (.mkf (.func 33)) 6 3 21, iM 4 21,
 iJ .mv [cI 0] 5]) .ret)))))
theorem fn13 : fnOf Try.prog 13 = some (22, [.t 4, .t 5], ir13) := by kernel_rfl
def ir14 : C := (.seq (.ops [iU .box 0 2, iU .box 1 3, iJ .mv [.c zF] 4]) (.seq (.any [12] [(iU (.fa 1) 3 5, 0, [12]), (iU L1 5 6, 1, [12]), (iJ B4 [.t 6, .c zU] 7, 0, [12]), (iM 8 7, 0, [12]),
 (iV L8 2 9 8 true, 1, [12]), (iV (.fa 0) 3 10 8 true, 0, [12]), (iV L1 10 11 8 true, 1, [12]), (iG (.call 15) [.t 9, .t 11] 12 8 true, 1, [12]), (iV (.fa 1) 3 13 8 true, 0, [12]),
 (iV L1 13 14 8 true, 1, [12]), (iG B8 [.t 12, .t 14] 15 8 true, 0, []), (iJ .pick [.t 8, .t 15, .c zF] 16, 0, [12]), (iM 4 16, 0, [])]) .ret))
theorem fn14 : fnOf Try.prog 14 = some (17, [.t 4], ir14) := by kernel_rfl
def ir15 : C := (.seq (.ops [iU .box 0 2, iJ .mv [.c zU] 4]) (.seq (.seq (.ops [iJ .mv [cI 0] 5]) (.block 0 (.loop (.seq (.seq (.ops [iM 6 5, iJ B3 [.t 6, cI 8] 7]) (.ite (.t 7) .skip (.exit 0)))
 (.seq (.block 1 (.seq (.ops [iM 10 5, iJ B2 [.t 10, cI 1] 11, iM 12 1, iD B1 11 12 13]) (.ite (.t 13) (.seq (.ops [iM 14 5, iD (.iaA 8 1) 2 14 15, iU L1 15 16, iM 4 16]) .ret) .skip))) (.ops [iM 8 5,
 iJ B2 [.t 8, cI 1] 9, iM 5 9])))))) (.seq (.ops [iJ .mv [.c zU] 4]) .ret)))
theorem fn15 : fnOf Try.prog 15 = some (17, [.t 4], ir15) := by kernel_rfl
def ir16 : C := (.seq (.ops [iU .box 0 2, iU .box 1 3, iJ (.new zV) [] 4]) (.seq (.any [7, 8] [(iU L8 2 5, 1, [7, 8]), (iU L2 3 6, 1, [7, 8]), (iU (.call 36) 6 7, 1, [7, 8]),
 (iD (.call 35) 5 7 8, 3, [8]), (iO (.sto 8) [.t 4, .t 8], 2, [])]) .ret))
theorem fn16 : fnOf Try.prog 16 = some (9, [.c 4 8 true], ir16) := by kernel_rfl
def ir17 : C := (.seq (.ops [iU .box 1 3, iJ .mv [.c zF] 4]) (.seq (.ops [iM 11 0, iU L1 3 12, iU (.call 12) 12 13, iD (.call 13) 11 13 14, iM 10 14, iU (.ext 0) 10 15, iU (.ext 1) 10 16, iM 5 15,
 iM 6 16]) (.seq (.seq (.ops [iM 17 6, iJ B6 [.t 17, cI 0] 18, iM 19 18, iV .mv 5 20 19 false, iV (.eqv false [.other]) 20 21 19 false, iJ .pick [.t 19, .c zT, .t 21] 22])
 (.ite (.t 22) (.seq (.ops [iJ .mv [.c zF] 4]) .ret) .skip)) (.seq (.ops [iJ (.new zF) [] 7, iO S1 [.t 7, .c zF]]) (.seq (.seq (.ops [iM 23 5])
 (.block 0 (.rng (.t 23) [24] (.ops [iJ (.new (.agg [zI, zU, zV, zI, zI, zU, zI, zU, zS, zN, zN, zI, zS, zI])) [] 8, iO (.sto 21) [.t 8, .t 24]]) (.block 1 (.seq (.ops [iU L1 3 25,
 iU (.ld 21 true) 8 26, iD (.call 10) 25 26 27, iM 9 27]) (.ops [iU L1 7 28, iM 29 28, iV .mv 9 30 29 false, iG B1 [.t 30, cI 11] 31 29 false, iJ .pick [.t 29, .c zT, .t 31] 32, iM 33 32,
 iV .mv 9 34 33 false, iG B1 [.t 34, cI 10] 35 33 false, iJ .pick [.t 33, .c zT, .t 35] 36, iM 37 36, iV .mv 9 38 37 false, iG B1 [.t 38, cI 7] 39 37 false, iJ .pick [.t 37, .c zT, .t 39] 40,
 iO S1 [.t 7, .t 40]])))))) (.seq (.ops [iU L1 7 41, iU U1 41 42, iM 4 42]) .ret))))))
theorem fn17 : fnOf Try.prog 17 = some (43, [.t 4], ir17) := by kernel_rfl
def ir18 : C := (.seq (.ops [iU .box 0 2, iU .box 1 3, iJ .mv [.c zF] 4]) (.seq (.seq (.ops [iU (.fa 0) 2 8, iU L8 8 9, iU (.fa 0) 3 10, iU L8 10 11,
 iD (.eqv true [.int .u32, .int .u32, .int .u32, .int .u32, .int .u32, .int .u32, .int .u32, .int .u32]) 9 11 12, iM 13 12, iV (.fa 10) 2 14 13 false, iV L8 14 15 13 false, iV (.fa 10) 3 16 13 false,
 iV L8 16 17 13 false, iG (.eqv true [.int .i64, .int .i64, .int .i64, .int .i64, .int .i64, .int .i64, .int .i64, .int .i64]) [.t 15, .t 17] 18 13 false, iJ .pick [.t 13, .c zT, .t 18] 19, iM 20 19,
 iV (.fa 18) 2 21 20 false, iV L8 21 22 20 false, iV (.fa 18) 3 23 20 false, iV L8 23 24 20 false, iG (.eqv true [.bool, .bool, .bool, .bool, .bool, .bool, .bool, .bool]) [.t 22, .t 24] 25 20 false,
 iJ .pick [.t 20, .c zT, .t 25] 26, iM 27 26, iV (.fa 9) 2 28 27 false, iV L1 28 29 27 false, iV (.fa 9) 3 30 27 false, iV L1 30 31 27 false, iG (.call 37) [.t 29, .t 31] 32 27 false,
 iV U1 32 33 27 false, iJ .pick [.t 27, .c zT, .t 33] 34, iM 35 34, iV (.fa 8) 2 36 35 false, iV L1 36 37 35 false, iV .len 37 38 35 false, iV (.fa 8) 3 39 35 false, iV L1 39 40 35 false,
 iV .len 40 41 35 false, iG B6 [.t 38, .t 41] 42 35 false, iJ .pick [.t 35, .c zT, .t 42] 43]) (.ite (.t 43) (.seq (.ops [iJ .mv [.c zF] 4]) .ret) .skip)) (.seq (.seq (.ops [iJ .mv [cI 0] 5])
 (.block 0 (.loop (.seq (.seq (.ops [iM 44 5, iU (.fa 8) 2 45, iU L1 45 46, iU .len 46 47, iD B3 44 47 48]) (.ite (.t 48) .skip (.exit 0)))
 (.seq (.block 1 (.seq (.anyP [6, 7] [(iU (.fa 8) 2 51, 0, [6, 7], [], 0), (iU L1 51 52, 1, [6, 7], [], 1), (iM 53 5, 0, [6, 7], [], 2), (iD (.iaS 15) 52 53 54, 1, [6, 7], [], 3),
 (iU (.ld 15 true) 54 55, 1, [6, 7], [], 4), (iU (.fa 8) 3 56, 0, [6, 7], [], 5), (iU L1 56 57, 1, [6, 7], [], 6), (iM 58 5, 0, [6, 7], [], 7), (iD (.iaS 15) 57 58 59, 1, [6, 7], [], 8),
 (iU (.ld 15 true) 59 60, 1, [6, 7], [], 9), (iJ (.new (.agg [zI, zU, zF, zI, zU, zS, zV, zN])) [] 6, 1, [6, 7], [], 10), (iJ (.new (.agg [zI, zU, zF, zI, zU, zS, zV, zN])) [] 7, 1, [6, 7], [], 11),
 (iO (.sto 15) [.t 6, .t 55], 2, [], [6, 8, 9], 12), (iO (.sto 15) [.t 7, .t 60], 2, [], [], 13)]) (.seq (.ops [iU (.fa 0) 6 61, iU L2 61 62, iU (.fa 0) 7 63, iU L2 63 64,
 iD (.eqv true [.int .i64, .int .u32]) 62 64 65, iM 66 65, iV (.fa 2) 6 67 66 false, iV L1 67 68 66 false, iV (.fa 2) 7 69 66 false, iV L1 69 70 66 false, iG (.binB .neq) [.t 68, .t 70] 71 66 false,
 iJ .pick [.t 66, .c zT, .t 71] 72, iM 73 72, iV (.fa 3) 6 74 73 false, iV L2 74 75 73 false, iV (.fa 3) 7 76 73 false, iV L2 76 77 73 false,
 iG (.eqv true [.int .i64, .int .u32]) [.t 75, .t 77] 78 73 false, iJ .pick [.t 73, .c zT, .t 78] 79, iM 80 79, iV (.fa 5) 6 81 80 false, iV L1 81 82 80 false, iV (.fa 5) 7 83 80 false,
 iV L1 83 84 80 false, iG B6 [.t 82, .t 84] 85 80 false, iJ .pick [.t 80, .c zT, .t 85] 86, iM 87 86, iV (.fa 6) 6 88 87 false, iV L8 88 89 87 false, iV (.fa 6) 7 90 87 false, iV L8 90 91 87 false,
 iG (.eqv true [.int .u32, .int .u32, .int .u32, .int .u32, .int .u32, .int .u32, .int .u32, .int .u32]) [.t 89, .t 91] 92 87 false, iJ .pick [.t 87, .c zT, .t 92] 93, iM 94 93,
 iV (.fa 14) 6 95 94 false, iV L1 95 96 94 false, iV (.fa 14) 7 97 94 false, iV L1 97 98 94 false, iG (.call 38) [.t 96, .t 98] 99 94 false, iV U1 99 100 94 false,
 iJ .pick [.t 94, .c zT, .t 100] 101]) (.ite (.t 101) (.seq (.ops [iJ .mv [.c zF] 4]) .ret) .skip)))) (.ops [iM 49 5, iJ B2 [.t 49, cI 1] 50, iM 5 50])))))) (.seq (.ops [iJ .mv [.c zT] 4]) .ret))))
theorem fn18 : fnOf Try.prog 18 = some (102, [.t 4], ir18) := by kernel_rfl
def ir19 : C := (.seq (.ops [iJ (.new (.agg [zV, zN, zN, zW, zX])) [] 2]) (.seq (.seq (.ops [iM 3 0, iU (.eqv false []) 3 4])
 (.ite (.t 4) (.seq (.ops [iJ (.bld [8, 1, 1, 8, 8]) [.c zV, .c zN, .c zN, .c zW, .c zX] 5, iO (.sto 26) [.t 2, .t 5]]) .ret) .skip)) (.seq (.ops [iM 6 0, iU .nilc 6 7, iU (.fa 0) 7 8,
 iU (.ld 26 true) 8 9, iU (.call 28) 9 10, iO (.sto 26) [.t 2, .t 10]]) .ret)))
theorem fn19 : fnOf Try.prog 19 = some (11, [.c 2 26 true], ir19) := by kernel_rfl
def ir27 : C := (.seq (.ops [iJ .mv [cI 0] 2]) (.seq (.seq (.ops [iM 3 0, iU (.eqv false []) 3 4]) (.ite (.t 4) (.seq (.ops [iJ .mv [cI 0] 2]) .ret) .skip)) (.seq (.ops [iM 5 0, iU .nilc 5 6,
 iU (.fa 34) 6 7, iU L1 7 8, iU .len 8 9, iM 2 9]) .ret)))
theorem fn27 : fnOf Try.prog 27 = some (10, [.t 2], ir27) := by kernel_rfl
def ir28 : C := (.seq (.ops [iU .box 0 1, iJ (.new (.agg [zV, zN, zN, zW, zX])) [] 2]) (.seq (.ops [iU (.ld 26 true) 1 6, iJ (.new (.agg [zV, zN, zN, zW, zX])) [] 3, iO (.sto 26) [.t 3, .t 6]])
 (.seq (.ops [iU (.fa 9) 1 7, iU L1 7 8, iU (.call 46) 8 9, iU (.fa 9) 3 10, iO S1 [.t 10, .t 9]]) (.seq (.ops [iU (.fa 8) 3 11, iO S1 [.t 11, .c zN]]) (.seq (.seq (.ops [iU (.fa 8) 1 12, iU L1 12 13,
 iU .len 13 14, iJ .mv [cI 0] 15]) (.block 0 (.loop (.seq (.ops [iD B3 15 14 16]) (.seq (.ite (.t 16) .skip (.exit 0)) (.seq (.block 1 (.seq (.ops [iD (.iaS 15) 13 15 17, iU (.ld 15 true) 17 18,
 iJ (.new (.agg [zI, zU, zF, zI, zU, zS, zV, zN])) [] 5, iO (.sto 15) [.t 5, .t 18]]) (.seq (.ops [iU (.fa 14) 5 19, iU L1 19 20, iU (.call 47) 20 21, iU (.fa 14) 5 22, iO S1 [.t 22, .t 21]])
 (.ops [iU (.fa 8) 3 23, iU L1 23 24, iU (.ld 15 true) 5 25, iU (.bsl 15) 25 26, iD (.app 15 112) 24 26 27, iU (.fa 8) 3 28, iO S1 [.t 28, .t 27]])))) (.ops [iJ B2 [.t 15, cI 1] 29, iM 15 29])))))))
 (.seq (.ops [iU (.ld 26 true) 3 30, iO (.sto 26) [.t 2, .t 30]]) .ret))))))
theorem fn28 : fnOf Try.prog 28 = some (31, [.c 2 26 true], ir28) := by kernel_rfl
def ir29 : C := (.seq (.ops [iU .box 0 2, iU .box 1 3, iJ (.new (.agg [zV, zN, zN, zW, zX])) [] 4, iJ .mv [cI 0] 5]) (.seq (.block 0 (.seq (.ops [iU (.ld 21 true) 3 9, iU (.call 48) 9 10, iU U1 10 11,
 iM 8 11]) (.ite (.t 8) (.seq (.ops [iJ (.bld [8, 1, 1, 8, 8]) [.c zV, .c zN, .c zN, .c zW, .c zX] 12, iO (.sto 26) [.t 4, .t 12], iJ .mv [cI 7] 5]) .ret) (.seq (.ops [iU (.fa 0) 2 14, iU L8 14 15,
 iU (.fa 0) 3 16, iU L2 16 17, iD (.call 34) 15 17 18, iM 13 18]) (.ite (.t 13) (.seq (.ops [iJ (.bld [8, 1, 1, 8, 8]) [.c zV, .c zN, .c zN, .c zW, .c zX] 19, iO (.sto 26) [.t 4, .t 19],
 iJ .mv [cI 11] 5]) .ret) (.seq (.ops [iU (.fa 2) 3 21, iU L8 21 22, iU (.fa 0) 2 23, iU L8 23 24, iD (.call 32) 22 24 25, iU U1 25 26, iM 20 26])
 (.ite (.t 20) (.seq (.ops [iJ (.bld [8, 1, 1, 8, 8]) [.c zV, .c zN, .c zN, .c zW, .c zX] 27, iO (.sto 26) [.t 4, .t 27], iJ .mv [cI 10] 5]) .ret) (.seq (.ops [iU (.fa 0) 3 29, iU (.fa 0) 29 30,
 iU L1 30 31, iJ B5 [.t 31, cI 1] 32, iU (.fa 18) 2 33, iD (.iaA 8 1) 33 32 34, iU L1 34 35, iM 28 35]) (.ite (.t 28) (.seq (.ops [iJ (.bld [8, 1, 1, 8, 8]) [.c zV, .c zN, .c zN, .c zW, .c zX] 36,
 iO (.sto 26) [.t 4, .t 36], iJ .mv [cI 28] 5]) .ret) .skip))))))))) (.seq (.ops [iU (.ld 26 true) 2 37, iU (.call 28) 37 38, iJ (.new (.agg [zV, zN, zN, zW, zX])) [] 6, iO (.sto 26) [.t 6, .t 38]])
 (.seq (.ops [iU (.fa 0) 2 39, iU L8 39 40, iU (.fa 0) 3 41, iU L2 41 42, iD (.call 49) 40 42 43, iU (.fa 0) 6 44, iO (.sto 8) [.t 44, .t 43]]) (.seq (.seq (.ops [iU (.ld 21 true) 3 45,
 iD (.call 50) 6 45 46, iM 7 46]) (.seq (.ops [iM 47 7, iJ B6 [.t 47, cI 0] 48]) (.ite (.t 48) (.seq (.ops [iJ (.bld [8, 1, 1, 8, 8]) [.c zV, .c zN, .c zN, .c zW, .c zX] 49, iM 50 7,
 iO (.sto 26) [.t 4, .t 49], iM 5 50]) .ret) .skip))) (.seq (.ops [iU (.ld 26 true) 6 51, iO (.sto 26) [.t 4, .t 51], iJ .mv [cI 0] 5]) .ret))))))
theorem fn29 : fnOf Try.prog 29 = some (52, [.c 4 26 true, .t 5], ir29) := by kernel_rfl
def ir30 : C := (.seq (.ops [iJ .mv [.c zN] 2]) (.seq (.ops [iM 3 0, iM 4 0, iU .len 4 5, iM 6 0, iU .len 6 7, iJ (.slc 21 false true true) [.t 3, .t 5, .t 7] 8, iM 2 8]) .ret))
theorem fn30 : fnOf Try.prog 30 = some (9, [.t 2], ir30) := by kernel_rfl
def ir31 : C := (.seq (.ops [iU .box 0 1, iJ (.new (.agg [zI, zU, zV, zI, zI, zU, zI, zU, zS, zN, zN, zI, zS, zI])) [] 2]) (.seq (.any [5, 8] [(iU (.fa 16) 1 3, 0, [5, 8]), (iU L1 3 4, 1, [5, 8]),
 (iU (.call 51) 4 5, 1, [5, 8]), (iU (.fa 17) 1 6, 0, [5, 8]), (iU L1 6 7, 1, [5, 8]), (iU (.call 51) 7 8, 2, [8]), (iU (.fa 16) 1 9, 0, [8]), (iO S1 [.t 9, .t 5], 2, []), (iU (.fa 17) 1 10, 0, []),
 (iO S1 [.t 10, .t 8], 2, [])]) (.seq (.ops [iU (.ld 21 true) 1 11, iO (.sto 21) [.t 2, .t 11]]) .ret)))
theorem fn31 : fnOf Try.prog 31 = some (12, [.c 2 21 true], ir31) := by kernel_rfl
def ir32 : C := (.seq (.ops [iU .box 0 2, iU .box 1 3, iJ .mv [.c zF] 4]) (.seq (.seq (.ops [iU L8 2 7, iJ .mv [cI 0] 8]) (.block 0 (.loop (.seq (.ops [iJ B3 [.t 8, cI 8] 9]) (.seq (.ite (.t 9) .skip
 (.exit 0)) (.seq (.block 1 (.seq (.ops [iM 10 8, iD (.ixA 8 1 false) 7 8 11, iM 5 10, iM 6 11]) (.seq (.ops [iM 12 6, iM 13 5, iD (.iaA 8 1) 3 13 14, iU L1 14 15, iD B4 12 15 16])
 (.ite (.t 16) (.seq (.ops [iJ .mv [.c zF] 4]) .ret) .skip)))) (.ops [iJ B2 [.t 8, cI 1] 17, iM 8 17]))))))) (.seq (.ops [iJ .mv [.c zT] 4]) .ret)))
theorem fn32 : fnOf Try.prog 32 = some (18, [.t 4], ir32) := by kernel_rfl
def ir33 : C := (.seq (.ops [iU L1 1 6, iU .len 6 7, iJ .mv [cI 0] 8]) (.block 0 (.loop (.seq (.ops [iD B3 8 7 9]) (.seq (.ite (.t 9) .skip (.exit 0)) (.seq (.block 1 (.seq (.ops [iD (.iaS 21) 6 8 10,
 iU (.ld 21 true) 10 11, iJ (.new (.agg [zI, zU, zV, zI, zI, zU, zI, zU, zS, zN, zN, zI, zS, zI])) [] 5, iO (.sto 21) [.t 5, .t 11]]) (.seq (.ops [iU L8 2 12, iU (.fa 0) 5 13, iU L2 13 14,
 iD (.call 34) 12 14 15, iU U1 15 16, iM 17 16, iV .mv 0 18 17 true, iV (.ld 21 true) 5 19 17 true, iV (.call 31) 19 20 17 true, iG .yv [.t 18, .t 20] 21 17 true, iV U1 21 22 17 true,
 iJ .pick [.t 17, .t 22, .c zF] 23]) (.ite (.t 23) .ret .skip)))) (.ops [iJ B2 [.t 8, cI 1] 24, iM 8 24])))))))
theorem fn33 : fnOf Try.prog 33 = some (25, [], ir33) := by kernel_rfl
def ir34 : C := (.seq (.ops [iU .box 0 2, iU .box 1 3, iJ .mv [.c zF] 4]) (.seq (.any [14] [(iU (.fa 1) 3 5, 0, [14]), (iU L1 5 6, 1, [14]), (iJ B8 [.t 6, .c (.pv (.i .u32 1))] 7, 0, [14]),
 (iM 8 7, 0, [14]), (iV (.fa 1) 3 9 8 true, 0, [14]), (iV L1 9 10 8 true, 1, [14]), (iV L8 2 11 8 true, 1, [14]), (iV (.fa 0) 3 12 8 true, 0, [14]), (iV L1 12 13 8 true, 1, [14]),
 (iG (.call 52) [.t 11, .t 13] 14 8 true, 1, [14]), (iG B7 [.t 10, .t 14] 15 8 true, 0, []), (iJ .pick [.t 8, .t 15, .c zF] 16, 0, [14]), (iM 4 16, 0, [])]) .ret))
theorem fn34 : fnOf Try.prog 34 = some (17, [.t 4], ir34) := by kernel_rfl
def ir35 : C := (.seq (.ops [iU .box 0 2, iU .box 1 3, iJ (.new zV) [] 4]) (.seq (.ops [iJ (.bldV 8 1) [.c zU, .c zU, .c zU, .c zU, .c zU, .c zU, .c zU, .c zU] 7, iJ (.new zV) [] 5,
 iO (.sto 8) [.t 5, .t 7]]) (.seq (.seq (.ops [iJ .mv [cI 0] 6]) (.block 0 (.loop (.seq (.seq (.ops [iM 8 6, iJ B3 [.t 8, cI 8] 9]) (.ite (.t 9) .skip (.exit 0))) (.seq (.block 1 (.seq (.ops [iM 12 6,
 iM 13 6, iD (.iaA 8 1) 2 13 14, iU L1 14 15, iD (.iaA 8 1) 5 12 16, iO S1 [.t 16, .t 15]]) (.seq (.any [] [(iM 17 6, 0, []), (iD (.iaA 8 1) 3 17 18, 0, []), (iU L1 18 19, 1, []), (iM 20 6, 0, []),
 (iD (.iaA 8 1) 2 20 21, 0, []), (iU L1 21 22, 1, []), (iD B4 19 22 23, 0, [])]) (.ite (.t 23) (.ops [iM 24 6, iM 25 6, iD (.iaA 8 1) 3 25 26, iU L1 26 27, iD (.iaA 8 1) 5 24 28,
 iO S1 [.t 28, .t 27]]) .skip)))) (.ops [iM 10 6, iJ B2 [.t 10, cI 1] 11, iM 6 11])))))) (.seq (.ops [iU L8 5 29, iO (.sto 8) [.t 4, .t 29]]) .ret))))
theorem fn35 : fnOf Try.prog 35 = some (30, [.c 4 8 true], ir35) := by kernel_rfl
def ir36 : C := (.seq (.ops [iU .box 0 1, iJ (.new zV) [] 2]) (.seq (.ops [iJ (.bldV 8 1) [.c zU, .c zU, .c zU, .c zU, .c zU, .c zU, .c zU, .c zU] 5, iJ (.new zV) [] 3, iO (.sto 8) [.t 3, .t 5]])
 (.seq (.seq (.ops [iJ .mv [cI 0] 4]) (.block 0 (.loop (.seq (.seq (.ops [iM 6 4, iJ B3 [.t 6, cI 8] 7]) (.ite (.t 7) .skip (.exit 0))) (.seq (.block 1 (.seq (.ops [iM 10 4, iJ B2 [.t 10, cI 1] 11,
 iU (.fa 0) 1 12, iU L1 12 13, iD B1 11 13 14]) (.ite (.t 14) (.ops [iM 15 4, iU (.fa 1) 1 16, iU L1 16 17, iD (.iaA 8 1) 3 15 18, iO S1 [.t 18, .t 17]]) .skip))) (.ops [iM 8 4, iJ B2 [.t 8, cI 1] 9,
 iM 4 9])))))) (.seq (.ops [iU L8 3 19, iO (.sto 8) [.t 2, .t 19]]) .ret))))
theorem fn36 : fnOf Try.prog 36 = some (20, [.c 2 8 true], ir36) := by kernel_rfl
def ir37 : C := (.seq (.ops [iJ .mv [.c zF] 4]) (.seq (.seq (.ops [iM 6 0, iU .len 6 7, iM 8 1, iU .len 8 9, iD B6 7 9 10]) (.ite (.t 10) (.seq (.ops [iJ .mv [.c zF] 4]) .ret) .skip))
 (.seq (.seq (.ops [iJ .mv [cI 0] 5]) (.block 0 (.loop (.seq (.seq (.ops [iM 11 5, iM 12 0, iU .len 12 13, iD B3 11 13 14]) (.ite (.t 14) .skip (.exit 0)))
 (.seq (.block 1 (.seq (.any [] [(iM 17 0, 0, []), (iM 18 5, 0, []), (iD (.iaS 15) 17 18 19, 1, []), (iU (.ld 15 true) 19 20, 1, []), (iM 21 1, 0, []), (iM 22 5, 0, []),
 (iD (.iaS 15) 21 22 23, 1, []), (iU (.ld 15 true) 23 24, 1, []),
 (iD (.eqv true [.int .i64, .int .u32, .int .i64, .int .u32, .str, .int .i64, .int .u32, .int .u32, .int .u32, .int .u32, .int .u32, .int .u32, .int .u32, .int .u32, .int .u32]) 20 24 25, 0, [])])
 (.ite (.t 25) (.seq (.ops [iJ .mv [.c zF] 4]) .ret) .skip))) (.ops [iM 15 5, iJ B2 [.t 15, cI 1] 16, iM 5 16])))))) (.seq (.ops [iJ .mv [.c zT] 4]) .ret))))
theorem fn37 : fnOf Try.prog 37 = some (26, [.t 4], ir37) := by kernel_rfl
def ir38 : C := (.seq (.ops [iJ .mv [.c zF] 4]) (.seq (.seq (.ops [iM 6 0, iU .len 6 7, iM 8 1, iU .len 8 9, iD B6 7 9 10]) (.ite (.t 10) (.seq (.ops [iJ .mv [.c zF] 4]) .ret) .skip))
 (.seq (.seq (.ops [iJ .mv [cI 0] 5]) (.block 0 (.loop (.seq (.seq (.ops [iM 11 5, iM 12 0, iU .len 12 13, iD B3 11 13 14]) (.ite (.t 14) .skip (.exit 0)))
 (.seq (.block 1 (.seq (.any [] [(iM 17 0, 0, []), (iM 18 5, 0, []), (iD (.iaS 11) 17 18 19, 1, []), (iU (.ld 11 true) 19 20, 1, []), (iM 21 1, 0, []), (iM 22 5, 0, []),
 (iD (.iaS 11) 21 22 23, 1, []), (iU (.ld 11 true) 23 24, 1, []),
 (iD (.eqv true [.int .i64, .int .u32, .str, .int .u32, .int .u32, .int .u32, .int .u32, .int .u32, .int .u32, .int .u32, .int .u32]) 20 24 25, 0, [])]) (.ite (.t 25) (.seq (.ops [iJ .mv [.c zF] 4])
 .ret) .skip))) (.ops [iM 15 5, iJ B2 [.t 15, cI 1] 16, iM 5 16])))))) (.seq (.ops [iJ .mv [.c zT] 4]) .ret))))
theorem fn38 : fnOf Try.prog 38 = some (26, [.t 4], ir38) := by kernel_rfl
def ir46 : C := (.seq (.ops [iJ .mv [.c zN] 2]) (.seq (.seq (.ops [iM 3 0, iU (.eqn false) 3 4]) (.ite (.t 4) (.seq (.ops [iJ .mv [.c zN] 2]) .ret) .skip)) (.seq (.ops [iJ (.bsl 15) [] 5, iM 6 0,
 iD (.app 15 96) 5 6 7, iM 2 7]) .ret)))
theorem fn46 : fnOf Try.prog 46 = some (8, [.t 2], ir46) := by kernel_rfl
def ir47 : C := (.seq (.ops [iJ .mv [.c zN] 2]) (.seq (.seq (.ops [iM 3 0, iU (.eqn false) 3 4]) (.ite (.t 4) (.seq (.ops [iJ .mv [.c zN] 2]) .ret) .skip)) (.seq (.ops [iJ (.bsl 11) [] 5, iM 6 0,
 iD (.app 11 64) 5 6 7, iM 2 7]) .ret)))
theorem fn47 : fnOf Try.prog 47 = some (8, [.t 2], ir47) := by kernel_rfl
def ir48 : C := (.seq (.ops [iU .box 0 1, iJ .mv [.c zF] 2]) (.seq (.seq (.any [] [(iU (.fa 0) 1 7, 0, []), (iU (.fa 0) 7 8, 0, []), (iU L1 8 9, 1, []), (iJ B3 [.t 9, cI 1] 10, 0, []),
 (iM 11 10, 0, []), (iV (.fa 0) 1 12 11 false, 0, []), (iV (.fa 0) 12 13 11 false, 0, []), (iV L1 13 14 11 false, 1, []), (iG B4 [.t 14, cI 8] 15 11 false, 0, []),
 (iJ .pick [.t 11, .c zT, .t 15] 16, 0, []), (iM 17 16, 0, []), (iV (.fa 0) 1 18 17 false, 0, []), (iV (.fa 1) 18 19 17 false, 0, []), (iV L1 19 20 17 false, 1, []),
 (iG B3 [.t 20, .c (.pv (.i .u32 1))] 21 17 false, 0, []), (iJ .pick [.t 17, .c zT, .t 21] 22, 0, []), (iM 23 22, 0, []), (iV (.fa 0) 1 24 23 false, 0, []), (iV (.fa 1) 24 25 23 false, 0, []),
 (iV L1 25 26 23 false, 1, []), (iG B4 [.t 26, .c (.pv (.i .u32 1048576))] 27 23 false, 0, []), (iJ .pick [.t 23, .c zT, .t 27] 28, 0, []), (iM 29 28, 0, []), (iV (.fa 0) 1 30 29 false, 0, []),
 (iV (.fa 0) 30 31 29 false, 0, []), (iV L1 31 32 29 false, 1, []), (iG B5 [.t 32, cI 1] 33 29 false, 0, []), (iV (.fa 2) 1 34 29 false, 0, []), (iG (.iaA 8 1) [.t 34, .t 33] 35 29 false, 0, []),
 (iV L1 35 36 29 false, 1, []), (iV (.fa 0) 1 37 29 false, 0, []), (iV (.fa 1) 37 38 29 false, 0, []), (iV L1 38 39 29 false, 1, []), (iG B5 [.t 39, .c (.pv (.i .u32 1))] 40 29 false, 0, []),
 (iG B6 [.t 36, .t 40] 41 29 false, 0, []), (iJ .pick [.t 29, .c zT, .t 41] 42, 0, []), (iM 43 42, 0, []), (iV (.fa 10) 1 44 43 false, 0, []), (iV L1 44 45 43 false, 1, []),
 (iG B3 [.t 45, cI 1] 46 43 false, 0, []), (iJ .pick [.t 43, .c zT, .t 46] 47, 0, []), (iM 48 47, 0, []), (iV (.fa 10) 1 49 48 false, 0, []), (iV L1 49 50 48 false, 1, []),
 (iG B4 [.t 50, cI 9] 51 48 false, 0, []), (iJ .pick [.t 48, .c zT, .t 51] 52, 0, [])]) (.ite (.t 52) (.seq (.ops [iJ .mv [.c zF] 2]) .ret) .skip)) (.seq (.seq (.ops [iU (.fa 2) 1 53, iU L8 53 54,
 iJ .mv [cI 0] 55]) (.block 0 (.loop (.seq (.ops [iJ B3 [.t 55, cI 8] 56]) (.seq (.ite (.t 56) .skip (.exit 0)) (.seq (.block 1 (.seq (.ops [iD (.ixA 8 1 false) 54 55 57, iM 4 57])
 (.seq (.ops [iM 58 4, iJ B4 [.t 58, .c (.pv (.i .u32 1048576))] 59]) (.ite (.t 59) (.seq (.ops [iJ .mv [.c zF] 2]) .ret) .skip)))) (.ops [iJ B2 [.t 55, cI 1] 60, iM 55 60])))))))
 (.seq (.ops [iU (.ld 21 true) 1 61, iU (.call 58) 61 62, iJ (.new (.agg [zI, zU, zV, zI, zI, zU, zI, zU, zS, zN, zN, zI, zS, zI])) [] 5, iO (.sto 21) [.t 5, .t 62]])
 (.seq (.seq (.ops [iU (.fa 11) 5 63, iU L2 63 64, iJ (.bld [1, 1]) [cI 0, .c zU] 65, iD (.eqv true [.int .i64, .int .u32]) 64 65 66, iM 67 66, iV (.fa 13) 5 68 67 false, iV L2 68 69 67 false,
 iG (.bld [1, 1]) [cI 0, .c zU] 70 67 false, iG (.eqv true [.int .i64, .int .u32]) [.t 69, .t 70] 71 67 false, iJ .pick [.t 67, .c zT, .t 71] 72, iM 73 72, iV (.fa 15) 5 74 73 false,
 iV L1 74 75 73 false, iG B6 [.t 75, .c zS] 76 73 false, iJ .pick [.t 73, .c zT, .t 76] 77, iM 78 77, iV (.fa 16) 5 79 78 false, iV L1 79 80 78 false, iV .len 80 81 78 false,
 iG B4 [.t 81, cI 0] 82 78 false, iJ .pick [.t 78, .c zT, .t 82] 83, iM 84 83, iV (.fa 17) 5 85 84 false, iV L1 85 86 84 false, iV .len 86 87 84 false, iG B4 [.t 87, cI 0] 88 84 false,
 iJ .pick [.t 84, .c zT, .t 88] 89, iM 90 89, iV (.fa 18) 5 91 90 false, iV L1 91 92 90 false, iG B6 [.t 92, cI 0] 93 90 false, iJ .pick [.t 90, .c zT, .t 93] 94, iM 95 94, iV (.fa 19) 5 96 95 false,
 iV L1 96 97 95 false, iG B6 [.t 97, .c zS] 98 95 false, iJ .pick [.t 95, .c zT, .t 98] 99, iM 100 99, iV (.fa 20) 5 101 100 false, iV L1 101 102 100 false, iG B6 [.t 102, cI 0] 103 100 false,
 iJ .pick [.t 100, .c zT, .t 103] 104]) (.ite (.t 104) (.seq (.ops [iJ .mv [.c zF] 2]) .ret) .skip)) (.seq (.ops [iJ .mv [.c (.fn (.func 59) [])] 6]) (.seq (.seq (.ops [iU (.fa 10) 1 105,
 iU L1 105 106]) (.block 2 (.seq (.seq (.ops [iJ B1 [.t 106, cI 1] 108, iM 107 108]) (.ite (.t 107) .skip (.ops [iJ B1 [.t 106, cI 2] 109, iM 107 109])))
 (.ite (.t 107) (.seq (.ops [iU (.ld 21 true) 1 110, iU (.call 60) 110 111, iM 112 111, iV (.fa 15) 1 113 112 true, iV L1 113 114 112 true, iV (.call 61) 114 115 112 true,
 iJ .pick [.t 112, .t 115, .c zF] 116, iM 2 116]) .ret) (.seq (.ops [iJ B1 [.t 106, cI 3] 118, iM 117 118]) (.ite (.t 117) (.seq (.ops [iU (.fa 2) 1 119, iU L8 119 120, iU (.fa 11) 1 121,
 iU L2 121 122, iD (.call 34) 120 122 123, iM 124 123, iV (.fa 17) 1 125 124 true, iV L1 125 126 124 true, iV (.fa 2) 1 127 124 true, iV L8 127 128 124 true,
 iG (.call 62) [.t 126, cI 1, .t 128] 129 124 true, iJ .pick [.t 124, .t 129, .c zF] 130, iM 131 130, iV .mv 6 132 131 true, iV (.fa 18) 1 133 131 true, iV L1 133 134 131 true,
 iG .yv [.t 132, .t 134] 135 131 true, iJ .pick [.t 131, .t 135, .c zF] 136, iM 137 136, iV (.fa 19) 1 138 137 true, iV L1 138 139 137 true, iV .lenS 139 140 137 true,
 iG B8 [.t 140, cI 1] 141 137 true, iJ .pick [.t 137, .t 141, .c zF] 142, iM 143 142, iV .mv 6 144 143 true, iV (.fa 19) 1 145 143 true, iV L1 145 146 143 true, iV .lenS 146 147 143 true,
 iG .yv [.t 144, .t 147] 148 143 true, iJ .pick [.t 143, .t 148, .c zF] 149, iM 150 149, iV .mv 6 151 150 true, iV (.fa 18) 1 152 150 true, iV L1 152 153 150 true, iV (.fa 19) 1 154 150 true,
 iV L1 154 155 150 true, iV .lenS 155 156 150 true, iG B2 [.t 153, .t 156] 157 150 true, iG .yv [.t 151, .t 157] 158 150 true, iJ .pick [.t 150, .t 158, .c zF] 159, iM 2 159]) .ret)
 (.seq (.ops [iJ B1 [.t 106, cI 4] 161, iM 160 161]) (.ite (.t 160) (.seq (.ops [iU (.fa 2) 1 162, iU L8 162 163, iU (.fa 11) 1 164, iU L2 164 165, iD (.call 34) 163 165 166, iM 167 166,
 iV (.fa 17) 1 168 167 true, iV L1 168 169 167 true, iV (.fa 2) 1 170 167 true, iV L8 170 171 167 true, iG (.call 62) [.t 169, cI 1, .t 171] 172 167 true, iJ .pick [.t 167, .t 172, .c zF] 173,
 iM 174 173, iV .mv 6 175 174 true, iV (.fa 18) 1 176 174 true, iV L1 176 177 174 true, iG .yv [.t 175, .t 177] 178 174 true, iJ .pick [.t 174, .t 178, .c zF] 179, iM 2 179]) .ret)
 (.seq (.ops [iJ B1 [.t 106, cI 5] 181, iM 180 181]) (.ite (.t 180) (.seq (.ops [iU (.fa 2) 1 182, iU L8 182 183, iU (.fa 11) 1 184, iU L2 184 185, iD (.call 34) 183 185 186, iM 187 186,
 iV (.fa 17) 1 188 187 true, iV L1 188 189 187 true, iV (.fa 2) 1 190 187 true, iV L8 190 191 187 true, iG (.call 62) [.t 189, cI 8, .t 191] 192 187 true, iJ .pick [.t 187, .t 192, .c zF] 193,
 iM 194 193, iV (.fa 17) 1 195 194 true, iV L1 195 196 194 true, iV .len 196 197 194 true, iG B8 [.t 197, cI 2] 198 194 true, iJ .pick [.t 194, .t 198, .c zF] 199, iM 200 199, iV .mv 6 201 200 true,
 iV (.fa 19) 1 202 200 true, iV L1 202 203 200 true, iV .lenS 203 204 200 true, iG .yv [.t 201, .t 204] 205 200 true, iJ .pick [.t 200, .t 205, .c zF] 206, iM 2 206]) .ret)
 (.seq (.ops [iJ B1 [.t 106, cI 6] 208, iM 207 208]) (.ite (.t 207) (.seq (.ops [iU (.fa 2) 1 209, iU L8 209 210, iU (.fa 11) 1 211, iU L2 211 212, iD (.call 34) 210 212 213, iM 214 213,
 iV (.fa 16) 1 215 214 true, iV L1 215 216 214 true, iV (.fa 2) 1 217 214 true, iV L8 217 218 214 true, iG (.call 62) [.t 216, cI 8, .t 218] 219 214 true, iJ .pick [.t 214, .t 219, .c zF] 220,
 iM 2 220]) .ret) (.seq (.ops [iJ B1 [.t 106, cI 7] 222, iM 221 222]) (.ite (.t 221) (.seq (.ops [iU (.fa 2) 1 223, iU L8 223 224, iU (.fa 11) 1 225, iU L2 225 226, iD (.call 34) 224 226 227,
 iM 228 227, iV (.fa 16) 1 229 228 true, iV L1 229 230 228 true, iV (.fa 2) 1 231 228 true, iV L8 231 232 228 true, iG (.call 62) [.t 230, cI 8, .t 232] 233 228 true,
 iJ .pick [.t 228, .t 233, .c zF] 234, iM 235 234, iV (.ld 21 true) 1 236 235 true, iV (.call 60) 236 237 235 true, iJ .pick [.t 235, .t 237, .c zF] 238, iM 239 238, iV (.fa 15) 1 240 239 true,
 iV L1 240 241 239 true, iV (.call 61) 241 242 239 true, iJ .pick [.t 239, .t 242, .c zF] 243, iM 2 243]) .ret) (.seq (.ops [iJ B1 [.t 106, cI 8] 245, iM 244 245])
 (.ite (.t 244) (.seq (.ops [iU (.fa 20) 1 246, iU L1 246 247, iJ B8 [.t 247, cI 1] 248, iM 249 248, iV (.fa 20) 1 250 249 true, iV L1 250 251 249 true, iG B7 [.t 251, cI 4] 252 249 true,
 iJ .pick [.t 249, .t 252, .c zF] 253, iM 2 253]) .ret) .skip)))))))))))))))) (.seq (.ops [iJ .mv [.c zT] 2]) .ret))))))))
theorem fn48 : fnOf Try.prog 48 = some (254, [.t 2], ir48) := by kernel_rfl
def ir49 : C := (.seq (.ops [iU .box 0 2, iU .box 1 3, iJ (.new zV) [] 4]) (.seq (.seq (.ops [iU (.fa 0) 3 5, iU L1 5 6, iJ B8 [.t 6, cI 1] 7, iM 8 7, iV (.fa 0) 3 9 8 true, iV L1 9 10 8 true,
 iG B7 [.t 10, cI 8] 11 8 true, iJ .pick [.t 8, .t 11, .c zF] 12]) (.ite (.t 12) (.any [] [(iU (.fa 0) 3 13, 0, []), (iU L1 13 14, 1, []), (iJ B5 [.t 14, cI 1] 15, 0, []), (iU (.fa 0) 3 16, 0, []),
 (iU L1 16 17, 1, []), (iJ B5 [.t 17, cI 1] 18, 0, []), (iD (.iaA 8 1) 2 18 19, 0, []), (iU L1 19 20, 1, []), (iU (.fa 1) 3 21, 0, []), (iU L1 21 22, 1, []), (iD .mx 20 22 23, 0, []),
 (iD (.iaA 8 1) 2 15 24, 0, []), (iO S1 [.t 24, .t 23], 2, [])]) .skip)) (.seq (.ops [iU L8 2 25, iO (.sto 8) [.t 4, .t 25]]) .ret)))
theorem fn49 : fnOf Try.prog 49 = some (26, [.c 4 8 true], ir49) := by kernel_rfl
def ir50 : C := (.seq (.ops [iU .box 1 3, iJ .mv [cI 0] 4]) (.seq (.seq (.ops [iU (.fa 10) 3 13, iU L1 13 14]) (.block 0 (.seq (.ops [iJ B1 [.t 14, cI 8] 16, iM 15 16])
 (.ite (.t 15) (.seq (.any [] [(iM 17 0, 0, []), (iU (.fa 0) 3 18, 0, []), (iU (.fa 0) 18 19, 0, []), (iU L1 19 20, 1, []), (iJ B5 [.t 20, cI 1] 21, 0, []), (iU (.fa 20) 3 22, 0, []),
 (iU L1 22 23, 1, []), (iU .nilc 17 24, 0, []), (iU (.fa 10) 24 25, 0, []), (iD (.iaA 8 1) 25 21 26, 0, []), (iO S1 [.t 26, .t 23], 2, [])]) (.seq (.ops [iJ .mv [cI 0] 4]) .ret))
 (.seq (.ops [iJ B1 [.t 14, cI 9] 28, iM 27 28]) (.ite (.t 27) (.seq (.any [] [(iM 29 0, 0, []), (iU (.fa 0) 3 30, 0, []), (iU (.fa 0) 30 31, 0, []), (iU L1 31 32, 1, []),
 (iJ B5 [.t 32, cI 1] 33, 0, []), (iU .nilc 29 34, 0, []), (iU (.fa 18) 34 35, 0, []), (iD (.iaA 8 1) 35 33 36, 0, []), (iO S1 [.t 36, .c zT], 2, [])]) (.seq (.ops [iJ .mv [cI 0] 4]) .ret))
 (.seq (.seq (.ops [iJ B1 [.t 14, cI 1] 38, iM 37 38]) (.ite (.t 37) .skip (.ops [iJ B1 [.t 14, cI 2] 39, iM 37 39]))) (.ite (.t 37) (.seq (.seq (.any [45] [(iM 40 0, 0, [45]),
 (iU .nilc 40 41, 0, [45]), (iU (.ld 26 true) 41 42, 1, [45]), (iU (.fa 13) 3 43, 0, [45]), (iU L2 43 44, 1, [45]), (iD (.call 63) 42 44 45, 3, [45]), (iM 5 45, 0, [])]) (.seq (.ops [iM 46 5,
 iJ B6 [.t 46, cI 0] 47]) (.ite (.t 47) (.seq (.ops [iM 48 5, iM 4 48]) .ret) .skip))) (.seq (.any [56] [(iM 50 0, 0, [56]), (iU .nilc 50 51, 0, [56]), (iU (.fa 8) 51 52, 0, [56]),
 (iU L1 52 53, 1, [56]), (iU (.fa 0) 3 54, 0, [56]), (iU L2 54 55, 1, [56]), (iD (.call 64) 53 55 56, 3, [56]), (iM 49 56, 0, []), (iU (.ext 0) 49 57, 0, [56]), (iU (.ext 1) 49 58, 0, [56]),
 (iM 6 57, 0, []), (iM 7 58, 0, [])]) (.seq (.any [75, 76] [(iM 59 0, 0, [75, 76]), (iM 60 0, 0, [75, 76]), (iU .nilc 60 61, 0, [75, 76]), (iU (.fa 8) 61 62, 0, [75, 76]), (iU L1 62 63, 1, [75, 76]),
 (iM 64 6, 0, [75, 76]), (iU (.fa 0) 3 65, 0, [75, 76]), (iU L2 65 66, 1, [75, 76]), (iU (.fa 10) 3 67, 0, [75, 76]), (iU L1 67 68, 1, [75, 76]), (iJ B1 [.t 68, cI 2] 69, 0, [75, 76]),
 (iU (.fa 0) 3 70, 0, [75, 76]), (iU L2 70 71, 1, [75, 76]), (iU (.fa 15) 3 72, 0, [75, 76]), (iU L1 72 73, 1, [75, 76]),
 (iJ (.bld [2, 1, 2, 1, 8, 1]) [.t 66, .t 69, .t 71, .t 73, .c zV, .c zN] 74, 0, [75, 76]), (iU (.bsl 15) 74 75, 1, [75, 76]), (iJ (.call 65) [.t 63, .t 64, .t 75] 76, 2, [76]),
 (iU .nilc 59 77, 0, []), (iU (.fa 8) 77 78, 0, []), (iO S1 [.t 78, .t 76], 2, [])]) (.seq (.any [93] [(iM 79 0, 0, [93]), (iM 80 0, 0, [93]), (iU .nilc 80 81, 0, [93]), (iU (.fa 9) 81 82, 0, [93]),
 (iU L1 82 83, 1, [93]), (iU (.fa 0) 3 84, 0, [93]), (iU L2 84 85, 1, [93]), (iU (.fa 13) 3 86, 0, [93]), (iU L2 86 87, 1, [93]), (iU (.fa 15) 3 88, 0, [93]), (iU L1 88 89, 1, [93]),
 (iU (.fa 0) 3 90, 0, [93]), (iU L2 90 91, 1, [93]), (iJ (.bld [2, 2, 1, 2, 8]) [.t 85, .t 87, .t 89, .t 91, .c zV] 92, 0, [93]), (iD (.call 66) 83 92 93, 2, [93]), (iU .nilc 79 94, 0, []),
 (iU (.fa 9) 94 95, 0, []), (iO S1 [.t 95, .t 93], 2, [])]) (.seq (.ops [iJ .mv [cI 0] 4]) .ret))))) .skip)))))))) (.seq (.any [103] [(iM 97 0, 0, [103]), (iU .nilc 97 98, 0, [103]),
 (iU (.fa 8) 98 99, 0, [103]), (iU L1 99 100, 1, [103]), (iU (.fa 11) 3 101, 0, [103]), (iU L2 101 102, 1, [103]), (iD (.call 64) 100 102 103, 3, [103]), (iM 96 103, 0, []),
 (iU (.ext 0) 96 104, 0, [103]), (iU (.ext 1) 96 105, 0, [103]), (iM 8 104, 0, []), (iM 9 105, 0, [])]) (.seq (.seq (.ops [iM 106 9, iU U1 106 107]) (.ite (.t 107) (.seq (.ops [iJ .mv [cI 2] 4]) .ret)
 .skip)) (.seq (.ops [iM 108 0, iU .nilc 108 109, iU (.fa 8) 109 110, iU L1 110 111, iM 112 8, iD (.iaS 15) 111 112 113, iM 10 113]) (.seq (.seq (.ops [iU (.fa 10) 3 114, iU L1 114 115,
 iJ B1 [.t 115, cI 6] 116, iM 117 116, iV (.fa 10) 3 118 117 false, iV L1 118 119 117 false, iG B1 [.t 119, cI 7] 120 117 false, iJ .pick [.t 117, .c zT, .t 120] 121])
 (.ite (.t 121) (.seq (.ops [iM 122 0, iM 123 10, iU (.ld 21 true) 3 124, iJ (.call 67) [.t 122, .t 123, .t 124] 125, iM 4 125]) .ret) .skip)) (.seq (.seq (.ops [iM 126 10, iU .nilc 126 127,
 iU (.fa 2) 127 128, iU L1 128 129]) (.ite (.t 129) (.seq (.ops [iJ .mv [cI 23] 4]) .ret) .skip)) (.seq (.any [136] [(iM 131 10, 0, [136]), (iU .nilc 131 132, 0, [136]),
 (iU (.fa 14) 132 133, 0, [136]), (iU L1 133 134, 1, [136]), (iU (.ld 21 true) 3 135, 1, [136]), (iD (.call 68) 134 135 136, 3, [136]), (iM 130 136, 0, []), (iU (.ext 0) 130 137, 0, [136]),
 (iU (.ext 1) 130 138, 0, [136]), (iM 11 137, 0, []), (iM 12 138, 0, [])]) (.seq (.seq (.ops [iM 139 12, iJ B6 [.t 139, cI 0] 140]) (.ite (.t 140) (.seq (.ops [iM 141 12, iM 4 141]) .ret) .skip))
 (.seq (.any [154] [(iM 143 10, 0, [154]), (iM 144 10, 0, [154]), (iU .nilc 144 145, 0, [154]), (iU (.fa 14) 145 146, 0, [154]), (iU L1 146 147, 1, [154]), (iU (.fa 17) 3 148, 0, [154]),
 (iU L1 148 149, 1, [154]), (iU (.fa 0) 3 150, 0, [154]), (iU L2 150 151, 1, [154]), (iM 152 11, 0, [154]), (iJ (.bld [2, 1, 8]) [.t 151, .t 152, .c zV] 153, 0, [154]),
 (iJ (.call 69) [.t 147, .t 149, .t 153] 154, 2, [154]), (iM 142 154, 0, []), (iU (.ext 0) 142 155, 0, [154]), (iU (.ext 1) 142 156, 0, [154]), (iU .nilc 143 157, 0, []), (iU (.fa 14) 157 158, 0, []),
 (iO S1 [.t 158, .t 155], 2, []), (iM 12 156, 0, [])]) (.seq (.ops [iM 159 12, iM 4 159]) .ret)))))))))))
theorem fn50 : fnOf Try.prog 50 = some (160, [.t 4], ir50) := by kernel_rfl
def ir51 : C := (.seq (.ops [iJ .mv [.c zN] 2]) (.seq (.seq (.ops [iM 3 0, iU (.eqn false) 3 4]) (.ite (.t 4) (.seq (.ops [iJ .mv [.c zN] 2]) .ret) .skip)) (.seq (.ops [iJ (.bsl 2) [] 5, iM 6 0,
 iD (.app 2 16) 5 6 7, iM 2 7]) .ret)))
theorem fn51 : fnOf Try.prog 51 = some (8, [.t 2], ir51) := by kernel_rfl
def ir52 : C := (.seq (.ops [iU .box 0 2, iJ .mv [.c zU] 4]) (.seq (.seq (.ops [iM 5 1, iJ B3 [.t 5, cI 1] 6, iM 7 6, iV .mv 1 8 7 false, iG B4 [.t 8, cI 8] 9 7 false,
 iJ .pick [.t 7, .c zT, .t 9] 10]) (.ite (.t 10) (.seq (.ops [iJ .mv [.c zU] 4]) .ret) .skip)) (.seq (.ops [iM 11 1, iJ B5 [.t 11, cI 1] 12, iD (.iaA 8 1) 2 12 13, iU L1 13 14, iM 4 14]) .ret)))
theorem fn52 : fnOf Try.prog 52 = some (15, [.t 4], ir52) := by kernel_rfl
def ir57 : C := (.seq (.ops [iU .box 0 2, iU .box 1 3, iJ (.new zV) [] 4]) (.seq (.seq (.ops [iU L8 3 7, iJ .mv [cI 0] 8]) (.block 0 (.loop (.seq (.ops [iJ B3 [.t 8, cI 8] 9]) (.seq (.ite (.t 9) .skip
 (.exit 0)) (.seq (.block 1 (.seq (.ops [iM 10 8, iD (.ixA 8 1 false) 7 8 11, iM 5 10, iM 6 11]) (.ops [iM 12 5, iM 13 5, iD (.iaA 8 1) 2 13 14, iU L1 14 15, iM 16 6, iD .mx 15 16 17,
 iD (.iaA 8 1) 2 12 18, iO S1 [.t 18, .t 17]]))) (.ops [iJ B2 [.t 8, cI 1] 19, iM 8 19]))))))) (.seq (.ops [iU L8 2 20, iO (.sto 8) [.t 4, .t 20]]) .ret)))
theorem fn57 : fnOf Try.prog 57 = some (21, [.c 4 8 true], ir57) := by kernel_rfl
def ir58 : C := (.seq (.ops [iU .box 0 1, iJ (.new (.agg [zI, zU, zV, zI, zI, zU, zI, zU, zS, zN, zN, zI, zS, zI])) [] 2]) (.seq (.seq (.ops [iU (.fa 10) 1 3, iU L1 3 4])
 (.block 0 (.seq (.seq (.ops [iJ B1 [.t 4, cI 1] 6, iM 5 6]) (.ite (.t 5) .skip (.ops [iJ B1 [.t 4, cI 2] 7, iM 5 7]))) (.ite (.t 5) (.ops [iJ (.bld [1, 1]) [cI 0, .c zU] 8, iU (.fa 13) 1 9,
 iO (.sto 2) [.t 9, .t 8], iU (.fa 15) 1 10, iO S1 [.t 10, .c zS]]) (.seq (.ops [iJ B1 [.t 4, cI 3] 12, iM 11 12]) (.ite (.t 11) (.ops [iJ (.bld [1, 1]) [cI 0, .c zU] 13, iU (.fa 11) 1 14,
 iO (.sto 2) [.t 14, .t 13], iU (.fa 17) 1 15, iO S1 [.t 15, .c zN], iU (.fa 18) 1 16, iO S1 [.t 16, cI 0], iU (.fa 19) 1 17, iO S1 [.t 17, .c zS]]) (.seq (.ops [iJ B1 [.t 4, cI 4] 19, iM 18 19])
 (.ite (.t 18) (.ops [iJ (.bld [1, 1]) [cI 0, .c zU] 20, iU (.fa 11) 1 21, iO (.sto 2) [.t 21, .t 20], iU (.fa 17) 1 22, iO S1 [.t 22, .c zN], iU (.fa 18) 1 23, iO S1 [.t 23, cI 0]])
 (.seq (.ops [iJ B1 [.t 4, cI 5] 25, iM 24 25]) (.ite (.t 24) (.ops [iJ (.bld [1, 1]) [cI 0, .c zU] 26, iU (.fa 11) 1 27, iO (.sto 2) [.t 27, .t 26], iU (.fa 17) 1 28, iO S1 [.t 28, .c zN],
 iU (.fa 19) 1 29, iO S1 [.t 29, .c zS]]) (.seq (.ops [iJ B1 [.t 4, cI 6] 31, iM 30 31]) (.ite (.t 30) (.ops [iJ (.bld [1, 1]) [cI 0, .c zU] 32, iU (.fa 11) 1 33, iO (.sto 2) [.t 33, .t 32],
 iU (.fa 16) 1 34, iO S1 [.t 34, .c zN]]) (.seq (.ops [iJ B1 [.t 4, cI 7] 36, iM 35 36]) (.ite (.t 35) (.ops [iJ (.bld [1, 1]) [cI 0, .c zU] 37, iJ (.bld [1, 1]) [cI 0, .c zU] 38, iU (.fa 11) 1 39,
 iO (.sto 2) [.t 39, .t 37], iU (.fa 16) 1 40, iO S1 [.t 40, .c zN], iU (.fa 13) 1 41, iO (.sto 2) [.t 41, .t 38], iU (.fa 15) 1 42, iO S1 [.t 42, .c zS]]) (.seq (.ops [iJ B1 [.t 4, cI 8] 44,
 iM 43 44]) (.ite (.t 43) (.ops [iU (.fa 20) 1 45, iO S1 [.t 45, cI 0]]) .skip)))))))))))))))) (.seq (.ops [iU (.ld 21 true) 1 46, iO (.sto 21) [.t 2, .t 46]]) .ret)))
theorem fn58 : fnOf Try.prog 58 = some (47, [.c 2 21 true], ir58) := by kernel_rfl
def ir59 : C := (.seq (.ops [iJ .mv [.c zF] 2]) (.seq (.ops [iM 3 0, iJ B8 [.t 3, cI 0] 4, iM 5 4, iV .mv 0 6 5 true, iG B7 [.t 6, cI 200] 7 5 true, iJ .pick [.t 5, .t 7, .c zF] 8, iM 2 8]) .ret))
theorem fn59 : fnOf Try.prog 59 = some (9, [.t 2], ir59) := by kernel_rfl
def ir60 : C := (.seq (.ops [iU .box 0 1, iJ .mv [.c zF] 2]) (.seq (.ops [iU (.fa 13) 1 3, iU L2 3 4, iJ (.bld [1, 1]) [cI 0, .c zU] 5, iD (.eqv false [.int .i64, .int .u32]) 4 5 6, iM 7 6,
 iV (.fa 2) 1 8 7 false, iV L8 8 9 7 false, iV (.fa 13) 1 10 7 false, iV L2 10 11 7 false, iG (.call 34) [.t 9, .t 11] 12 7 false, iJ .pick [.t 7, .c zT, .t 12] 13, iM 2 13]) .ret))
theorem fn60 : fnOf Try.prog 60 = some (14, [.t 2], ir60) := by kernel_rfl
def ir61 : C := (.seq (.ops [iJ .mv [.c zF] 2]) (.seq (.seq (.ops [iM 5 0, iU .lenS 5 6, iJ B3 [.t 6, cI 1] 7, iM 8 7, iV .mv 0 9 8 false, iV .lenS 9 10 8 false, iG B4 [.t 10, cI 12] 11 8 false,
 iJ .pick [.t 8, .c zT, .t 11] 12, iM 13 12, iV .mv 0 14 13 false, iG B1 [.t 14, .c (.pv (.s [46]))] 15 13 false, iJ .pick [.t 13, .c zT, .t 15] 16, iM 17 16, iV .mv 0 18 17 false,
 iG B1 [.t 18, .c (.pv (.s [46, 46]))] 19 17 false, iJ .pick [.t 17, .c zT, .t 19] 20]) (.ite (.t 20) (.seq (.ops [iJ .mv [.c zF] 2]) .ret) .skip)) (.seq (.seq (.ops [iM 21 0, iU .rgs 21 22])
 (.block 0 (.loop (.seq (.ops [iU .nxs 22 23, iU (.ext 0) 23 24]) (.seq (.ite (.t 24) .skip (.exit 0)) (.block 1 (.seq (.ops [iU (.ext 2) 23 25, iM 4 25]) (.seq (.ops [iM 26 4, iU (.call 70) 26 27,
 iU U1 27 28, iM 29 28, iV .mv 4 30 29 true, iG B3 [.t 30, .c (.pv (.i .i32 48))] 31 29 true, iV .mv 31 32 29 true, iV .mv 4 33 32 false, iG B4 [.t 33, .c (.pv (.i .i32 57))] 34 32 false,
 iG .pick [.t 32, .c zT, .t 34] 35 29 true, iJ .pick [.t 29, .t 35, .c zF] 36, iM 37 36, iV .mv 4 38 37 true, iG (.call 71) [.c (.pv (.s [46, 95, 45])), .t 38] 39 37 true, iV U1 39 40 37 true,
 iJ .pick [.t 37, .t 40, .c zF] 41]) (.ite (.t 41) (.seq (.ops [iJ .mv [.c zF] 2]) .ret) .skip))))))))) (.seq (.ops [iJ .mv [.c zT] 2]) .ret))))
theorem fn61 : fnOf Try.prog 61 = some (42, [.t 2], ir61) := by kernel_rfl
def ir62 : C := (.seq (.ops [iU .box 2 5, iJ .mv [.c zF] 6]) (.seq (.seq (.ops [iM 9 0, iU .len 9 10, iM 11 1, iD B4 10 11 12]) (.ite (.t 12) (.seq (.ops [iJ .mv [.c zF] 6]) .ret) .skip))
 (.seq (.seq (.ops [iM 13 0, iU .len 13 14, iJ .mv [cI 0] 15]) (.block 0 (.loop (.seq (.ops [iD B3 15 14 16]) (.seq (.ite (.t 16) .skip (.exit 0)) (.seq (.block 1 (.seq (.ops [iM 17 15,
 iD (.iaS 2) 13 15 18, iU L2 18 19, iJ (.new (.agg [zI, zU])) [] 8, iM 7 17, iO (.sto 2) [.t 8, .t 19]]) (.seq (.any [22, 34] [(iU L8 5 20, 1, [22, 34]), (iU L2 8 21, 1, [22, 34]),
 (iD (.call 34) 20 21 22, 3, [22, 34]), (iU U1 22 23, 0, [34]), (iM 24 23, 0, [34]), (iV .mv 7 25 24 false, 0, [22, 34]), (iG B4 [.t 25, cI 0] 26 24 false, 0, [22, 34]),
 (iV .mv 26 27 24 false, 0, [22, 34]), (iV .mv 0 28 27 true, 0, [22, 34]), (iV .mv 7 29 27 true, 0, [22, 34]), (iG B5 [.t 29, cI 1] 30 27 true, 0, [22, 34]),
 (iG (.iaS 2) [.t 28, .t 30] 31 27 true, 1, [22, 34]), (iV L2 31 32 27 true, 1, [22, 34]), (iV L2 8 33 27 true, 1, [22, 34]), (iG (.call 72) [.t 32, .t 33] 34 27 true, 3, [22, 34]),
 (iV U1 34 35 27 true, 0, [22]), (iG .pick [.t 27, .t 35, .c zF] 36 24 false, 0, [22, 34]), (iJ .pick [.t 24, .c zT, .t 36] 37, 0, [22, 34])]) (.ite (.t 37) (.seq (.ops [iJ .mv [.c zF] 6]) .ret)
 .skip)))) (.ops [iJ B2 [.t 15, cI 1] 38, iM 15 38]))))))) (.seq (.ops [iJ .mv [.c zT] 6]) .ret))))
theorem fn62 : fnOf Try.prog 62 = some (39, [.t 6], ir62) := by kernel_rfl
def ir63 : C := (.seq (.ops [iU .box 0 2, iU .box 1 3, iJ .mv [cI 0] 4]) (.seq (.seq (.ops [iU L2 3 7, iJ (.bld [1, 1]) [cI 0, .c zU] 8, iD (.eqv false [.int .i64, .int .u32]) 7 8 9])
 (.ite (.t 9) (.seq (.ops [iJ .mv [cI 0] 4]) .ret) .skip)) (.seq (.ops [iU (.fa 8) 2 11, iU L1 11 12, iU L2 3 13, iD (.call 64) 12 13 14, iM 10 14, iU (.ext 0) 10 15, iU (.ext 1) 10 16, iM 5 15,
 iM 6 16]) (.seq (.block 0 (.seq (.ops [iM 18 6, iU U1 18 19, iM 17 19]) (.ite (.t 17) (.seq (.ops [iJ .mv [cI 2] 4]) .ret) (.seq (.ops [iU (.fa 8) 2 21, iU L1 21 22, iM 23 5, iD (.iaS 15) 22 23 24,
 iU (.fa 2) 24 25, iU L1 25 26, iU U1 26 27, iM 20 27]) (.ite (.t 20) (.seq (.ops [iJ .mv [cI 22] 4]) .ret) .skip))))) (.seq (.ops [iJ .mv [cI 0] 4]) .ret)))))
theorem fn63 : fnOf Try.prog 63 = some (28, [.t 4], ir63) := by kernel_rfl
def ir64 : C := (.seq (.ops [iU .box 1 3, iJ .mv [cI 0] 4, iJ .mv [.c zF] 5]) (.seq (.ops [iM 6 0, iU L2 3 7, iJ (.call 73) [.t 6, .t 7, .c (.fn (.func 74) [])] 8, iU (.ext 0) 8 9, iU (.ext 1) 8 10,
 iM 4 9, iM 5 10]) .ret))
theorem fn64 : fnOf Try.prog 64 = some (11, [.t 4, .t 5], ir64) := by kernel_rfl
def ir65 : C := (.seq (.ops [iJ .mv [.c zN] 6]) (.seq (.ops [iM 10 0, iM 11 1, iD (.slv 15 true false) 10 11 12]) (.seq (.ops [iM 13 2, iU .len 13 14, iM 7 14]) (.seq (.seq (.ops [iM 15 7,
 iJ B1 [.t 15, cI 0] 16]) (.ite (.t 16) (.seq (.ops [iM 17 0, iM 6 17]) .ret) .skip)) (.seq (.ops [iM 18 0, iU .len 18 19, iM 8 19]) (.seq (.seq (.ops [iM 20 1, iM 21 8, iD B1 20 21 22])
 (.ite (.t 22) (.seq (.ops [iM 23 0, iM 24 2, iD (.app 15 112) 23 24 25, iM 6 25]) .ret) .skip)) (.seq (.seq (.ops [iM 26 8, iM 27 7, iD B2 26 27 28, iM 29 0, iU .cap 29 30, iD B4 28 30 31])
 (.ite (.t 31) (.seq (.ops [iM 32 0, iM 33 1, iD (.slv 15 false true) 32 33 34, iM 35 8, iM 36 7, iD B2 35 36 37, iM 38 1, iD B5 37 38 39,
 iD (.apz 15 112 [.i .i64 0, .i .u32 0, .b false, .i .i64 0, .i .u32 0, .s [], .i .u32 0, .i .u32 0, .i .u32 0, .i .u32 0, .i .u32 0, .i .u32 0, .i .u32 0, .i .u32 0, .sl true 0 []]) 34 39 40,
 iM 9 40]) (.seq (.ops [iM 41 9, iM 42 1, iD (.slv 15 true false) 41 42 43, iM 44 2, iD (.cpy 15) 43 44 45]) (.seq (.any [] [(iM 46 9, 0, []), (iM 47 1, 0, []), (iM 48 7, 0, []),
 (iD B2 47 48 49, 0, []), (iD (.slv 15 true false) 46 49 50, 1, []), (iM 51 0, 0, []), (iM 52 1, 0, []), (iD (.slv 15 true false) 51 52 53, 1, []), (iD (.cpy 15) 50 53 54, 2, [])])
 (.seq (.ops [iM 55 9, iM 6 55]) .ret)))) .skip)) (.seq (.ops [iM 56 0, iM 57 8, iM 58 7, iD B2 57 58 59, iD (.slx 15) 56 59 60, iM 0 60]) (.seq (.seq (.ops [iM 61 2, iM 62 0, iM 63 1, iM 64 7,
 iD B2 63 64 65, iD (.slv 15 true false) 62 65 66, iD (.call 75) 61 66 67, iU U1 67 68]) (.ite (.t 68) (.seq (.any [] [(iM 69 0, 0, []), (iM 70 1, 0, []), (iM 71 7, 0, []), (iD B2 70 71 72, 0, []),
 (iD (.slv 15 true false) 69 72 73, 1, []), (iM 74 0, 0, []), (iM 75 1, 0, []), (iD (.slv 15 true false) 74 75 76, 1, []), (iD (.cpy 15) 73 76 77, 2, [])]) (.seq (.ops [iM 78 0, iM 79 1,
 iD (.slv 15 true false) 78 79 80, iM 81 2, iD (.cpy 15) 80 81 82]) (.seq (.ops [iM 83 0, iM 6 83]) .ret))) .skip)) (.seq (.ops [iM 84 0, iM 85 8, iD (.slv 15 true false) 84 85 86, iM 87 2,
 iD (.cpy 15) 86 87 88]) (.seq (.ops [iM 89 0, iM 90 1, iD (.slc 15 true false false) 89 90 91, iM 92 7, iD (.call 76) 91 92 93]) (.seq (.ops [iM 94 0, iM 6 94]) .ret))))))))))))
theorem fn65 : fnOf Try.prog 65 = some (95, [.t 6], ir65) := by kernel_rfl
def ir66 : C := (.seq (.ops [iU .box 1 3, iJ .mv [.c zN] 4]) (.seq (.ops [iM 8 0, iU (.fa 0) 3 9, iU L2 9 10, iD (.call 77) 8 10 11, iM 7 11, iU (.ext 0) 7 12, iU (.ext 1) 7 13, iM 5 12, iM 6 13])
 (.seq (.seq (.ops [iM 14 6]) (.ite (.t 14) (.seq (.ops [iM 15 0, iU (.call 46) 15 16, iM 4 16]) .ret) .skip)) (.seq (.any [18, 21, 22] [(iM 17 0, 0, [18, 21, 22]),
 (iU (.call 46) 17 18, 1, [18, 21, 22]), (iM 19 5, 0, [18, 21, 22]), (iU (.ld 15 true) 3 20, 1, [18, 21, 22]), (iU (.bsl 15) 20 21, 1, [18, 21, 22]), (iJ (.call 78) [.t 18, .t 19, .t 21] 22, 3, [22]),
 (iM 4 22, 0, [])]) .ret))))
theorem fn66 : fnOf Try.prog 66 = some (23, [.t 4], ir66) := by kernel_rfl
def ir67 : C := (.seq (.ops [iU .box 2 5, iJ .mv [cI 0] 6]) (.seq (.seq (.ops [iU (.fa 10) 5 10, iU L1 10 11, iJ B1 [.t 11, cI 7] 12]) (.ite (.t 12) (.seq (.any [18] [(iM 13 0, 0, [18]),
 (iU .nilc 13 14, 0, [18]), (iU (.ld 26 true) 14 15, 1, [18]), (iU (.fa 13) 5 16, 0, [18]), (iU L2 16 17, 1, [18]), (iD (.call 63) 15 17 18, 3, [18]), (iM 7 18, 0, [])]) (.seq (.ops [iM 19 7,
 iJ B6 [.t 19, cI 0] 20]) (.ite (.t 20) (.seq (.ops [iM 21 7, iM 6 21]) .ret) .skip))) .skip)) (.seq (.seq (.ops [iM 22 0, iU .nilc 22 23, iU (.fa 9) 23 24, iU L1 24 25, iU .len 25 26,
 iJ .mv [cI 0] 27]) (.block 0 (.loop (.seq (.ops [iD B3 27 26 28]) (.seq (.ite (.t 28) .skip (.exit 0)) (.seq (.block 1 (.seq (.ops [iD (.iaS 15) 25 27 29, iU (.ld 15 true) 29 30,
 iJ (.new (.agg [zI, zU, zI, zU, zS, zI, zU, zV])) [] 9, iO (.sto 15) [.t 9, .t 30]]) (.seq (.ops [iU (.fa 5) 9 31, iU L2 31 32, iU (.fa 11) 5 33, iU L2 33 34,
 iD (.eqv false [.int .i64, .int .u32]) 32 34 35, iM 36 35, iV (.fa 16) 5 37 36 true, iV L1 37 38 36 true, iV (.fa 0) 9 39 36 true, iV L2 39 40 36 true, iG (.call 79) [.t 38, .t 40] 41 36 true,
 iJ .pick [.t 36, .t 41, .c zF] 42]) (.ite (.t 42) (.any [52] [(iM 43 0, 0, [52]), (iM 44 0, 0, [52]), (iU .nilc 44 45, 0, [52]), (iU (.fa 9) 45 46, 0, [52]), (iU L1 46 47, 1, [52]),
 (iU (.fa 0) 9 48, 0, [52]), (iU L2 48 49, 1, [52]), (iU (.fa 0) 5 50, 0, [52]), (iU L2 50 51, 1, [52]), (iJ (.call 80) [.t 47, .t 49, .t 51] 52, 2, [52]), (iU .nilc 43 53, 0, []),
 (iU (.fa 9) 53 54, 0, []), (iO S1 [.t 54, .t 52], 2, [])]) .skip)))) (.ops [iJ B2 [.t 27, cI 1] 55, iM 27 55]))))))) (.seq (.seq (.ops [iU (.fa 10) 5 56, iU L1 56 57, iJ B1 [.t 57, cI 6] 58])
 (.ite (.t 58) (.seq (.any [68, 69] [(iM 59 1, 0, [68, 69]), (iM 60 1, 0, [68, 69]), (iU .nilc 60 61, 0, [68, 69]), (iU (.fa 6) 61 62, 0, [68, 69]), (iU L8 62 63, 1, [68, 69]),
 (iU (.fa 2) 5 64, 0, [68, 69]), (iU L8 64 65, 1, [68, 69]), (iU (.fa 0) 5 66, 0, [68, 69]), (iU L2 66 67, 1, [68, 69]), (iD (.call 49) 65 67 68, 1, [68, 69]), (iD (.call 57) 63 68 69, 2, [69]),
 (iU .nilc 59 70, 0, []), (iU (.fa 6) 70 71, 0, []), (iO (.sto 8) [.t 71, .t 69], 2, [])]) (.seq (.ops [iJ .mv [cI 0] 6]) .ret)) .skip)) (.seq (.any [86] [(iM 72 0, 0, [86]), (iM 73 0, 0, [86]),
 (iU .nilc 73 74, 0, [86]), (iU (.fa 9) 74 75, 0, [86]), (iU L1 75 76, 1, [86]), (iU (.fa 0) 5 77, 0, [86]), (iU L2 77 78, 1, [86]), (iU (.fa 13) 5 79, 0, [86]), (iU L2 79 80, 1, [86]),
 (iU (.fa 15) 5 81, 0, [86]), (iU L1 81 82, 1, [86]), (iU (.fa 11) 5 83, 0, [86]), (iU L2 83 84, 1, [86]), (iJ (.bld [2, 2, 1, 2, 8]) [.t 78, .t 80, .t 82, .t 84, .c zV] 85, 0, [86]),
 (iD (.call 66) 76 85 86, 2, [86]), (iU .nilc 72 87, 0, []), (iU (.fa 9) 87 88, 0, []), (iO S1 [.t 88, .t 86], 2, [])]) (.seq (.seq (.any [95] [(iM 89 1, 0, [95]), (iU .nilc 89 90, 0, [95]),
 (iU (.fa 3) 90 91, 0, [95]), (iU L2 91 92, 1, [95]), (iU (.fa 0) 5 93, 0, [95]), (iU L2 93 94, 1, [95]), (iD (.call 72) 92 94 95, 3, [95])]) (.ite (.t 95) (.anyP [] [(iM 96 1, 0, [], [], 0),
 (iM 97 1, 0, [], [], 1), (iU (.fa 0) 5 98, 0, [], [], 2), (iU L2 98 99, 1, [], [], 3), (iU (.fa 15) 5 100, 0, [], [], 4), (iU L1 100 101, 1, [], [], 5), (iU .nilc 96 102, 0, [], [], 6),
 (iU (.fa 3) 102 103, 0, [], [], 7), (iO (.sto 2) [.t 103, .t 99], 2, [], [5], 8), (iU .nilc 97 104, 0, [], [], 9), (iU (.fa 5) 104 105, 0, [], [], 10), (iO S1 [.t 105, .t 101], 2, [], [], 11)])
 .skip)) (.seq (.ops [iJ .mv [cI 0] 6]) .ret)))))))
theorem fn67 : fnOf Try.prog 67 = some (106, [.t 6], ir67) := by kernel_rfl
def ir68 : C := (.seq (.ops [iU .box 1 3, iJ .mv [.c zS] 4, iJ .mv [cI 0] 5]) (.seq (.seq (.ops [iU (.fa 10) 3 9, iU L1 9 10, iJ B1 [.t 10, cI 5] 11]) (.ite (.t 11) (.seq (.ops [iU (.fa 19) 3 12,
 iU L1 12 13, iM 4 13, iJ .mv [cI 0] 5]) .ret) .skip)) (.seq (.ops [iJ (.new (.agg [zI, zU])) [] 6]) (.seq (.seq (.ops [iU (.fa 17) 3 14, iU L1 14 15, iU .len 15 16, iJ B4 [.t 16, cI 0] 17])
 (.ite (.t 17) (.ops [iU (.fa 17) 3 18, iU L1 18 19, iJ (.iaS 2) [.t 19, cI 0] 20, iU L2 20 21, iO (.sto 2) [.t 6, .t 21]]) .skip)) (.seq (.ops [iM 23 0, iU L2 6 24, iD (.call 81) 23 24 25, iM 22 25,
 iU (.ext 0) 22 26, iU (.ext 1) 22 27, iM 7 26, iM 8 27]) (.seq (.seq (.ops [iM 28 8, iJ B6 [.t 28, cI 0] 29]) (.ite (.t 29) (.seq (.ops [iM 30 8, iJ .mv [.c zS] 4, iM 5 30]) .ret) .skip))
 (.seq (.seq (.ops [iU (.fa 10) 3 31, iU L1 31 32, iJ B1 [.t 32, cI 4] 33]) (.ite (.t 33) (.seq (.ops [iM 34 7, iU (.fa 18) 3 35, iU L1 35 36, iD (.call 82) 34 36 37, iU (.ext 0) 37 38,
 iU (.ext 1) 37 39, iM 4 38, iM 5 39]) .ret) .skip)) (.seq (.ops [iM 40 7, iU (.fa 18) 3 41, iU L1 41 42, iU (.fa 19) 3 43, iU L1 43 44, iJ (.call 83) [.t 40, .t 42, .t 44] 45, iU (.ext 0) 45 46,
 iU (.ext 1) 45 47, iM 4 46, iM 5 47]) .ret))))))))
theorem fn68 : fnOf Try.prog 68 = some (48, [.t 4, .t 5], ir68) := by kernel_rfl
def ir69 : C := (.seq (.ops [iU .box 2 5, iJ .mv [.c zN] 6, iJ .mv [cI 0] 7]) (.seq (.ops [iM 15 0, iU (.call 47) 15 16, iM 8 16]) (.seq (.seq (.ops [iM 17 1, iU .len 17 18, iJ .mv [cI 0] 19])
 (.block 0 (.loop (.seq (.ops [iD B3 19 18 20]) (.seq (.ite (.t 20) .skip (.exit 0)) (.seq (.block 1 (.seq (.ops [iD (.iaS 2) 17 19 21, iU L2 21 22, iJ (.new (.agg [zI, zU])) [] 10,
 iO (.sto 2) [.t 10, .t 22]]) (.seq (.ops [iM 24 8, iU L2 10 25, iD (.call 84) 24 25 26, iM 23 26, iU (.ext 0) 23 27, iU (.ext 1) 23 28, iM 11 27, iM 12 28]) (.seq (.seq (.ops [iM 29 12, iU U1 29 30])
 (.ite (.t 30) (.seq (.ops [iJ .mv [.c zN] 6, iJ .mv [cI 2] 7]) .ret) .skip)) (.any [40] [(iM 31 8, 0, [40]), (iM 32 11, 0, [40]), (iM 33 8, 0, [40]), (iM 34 11, 0, [40]),
 (iD (.iaS 11) 33 34 35, 1, [40]), (iU (.fa 3) 35 36, 0, [40]), (iU L8 36 37, 1, [40]), (iU (.fa 0) 5 38, 0, [40]), (iU L2 38 39, 1, [40]), (iD (.call 49) 37 39 40, 2, [40]),
 (iD (.iaS 11) 31 32 41, 1, []), (iU (.fa 3) 41 42, 0, []), (iO (.sto 8) [.t 42, .t 40], 2, [])]))))) (.ops [iJ B2 [.t 19, cI 1] 43, iM 19 43]))))))) (.seq (.ops [iM 45 8, iU (.fa 0) 5 46,
 iU L2 46 47, iD (.call 84) 45 47 48, iM 44 48, iU (.ext 0) 44 49, iU (.ext 1) 44 50, iM 13 49, iM 14 50]) (.seq (.seq (.ops [iM 51 14]) (.ite (.t 51) (.seq (.ops [iJ .mv [.c zN] 6, iJ .mv [cI 11] 7])
 .ret) .skip)) (.seq (.ops [iM 52 8, iM 53 13, iU (.ld 11 true) 5 54, iU (.bsl 11) 54 55, iJ (.call 85) [.t 52, .t 53, .t 55] 56, iM 6 56, iJ .mv [cI 0] 7]) .ret))))))
theorem fn69 : fnOf Try.prog 69 = some (57, [.t 6, .t 7], ir69) := by kernel_rfl
def ir70 : C := (.seq (.ops [iJ .mv [.c zF] 2]) (.seq (.ops [iM 3 0, iJ B8 [.t 3, .c (.pv (.i .i32 97))] 4, iM 5 4, iV .mv 0 6 5 true, iG B7 [.t 6, .c (.pv (.i .i32 122))] 7 5 true,
 iJ .pick [.t 5, .t 7, .c zF] 8, iM 9 8, iV .mv 0 10 9 false, iG B8 [.t 10, .c (.pv (.i .i32 65))] 11 9 false, iV .mv 11 12 9 false, iV .mv 0 13 12 true,
 iG B7 [.t 13, .c (.pv (.i .i32 90))] 14 12 true, iG .pick [.t 12, .t 14, .c zF] 15 9 false, iJ .pick [.t 9, .c zT, .t 15] 16, iM 2 16]) .ret))
theorem fn70 : fnOf Try.prog 70 = some (17, [.t 2], ir70) := by kernel_rfl
def ir71 : C := (.seq (.ops [iJ .mv [.c zF] 4]) (.seq (.ops [iM 5 0, iM 6 1, iD (.call 86) 5 6 7, iJ B8 [.t 7, cI 0] 8, iM 4 8]) .ret))
theorem fn71 : fnOf Try.prog 71 = some (9, [.t 4], ir71) := by kernel_rfl
def ir72 : C := (.seq (.ops [iU .box 0 2, iU .box 1 3, iJ .mv [.c zF] 4]) (.seq (.seq (.ops [iU (.fa 1) 2 5, iU L1 5 6, iU (.fa 1) 3 7, iU L1 7 8, iD B6 6 8 9])
 (.ite (.t 9) (.seq (.ops [iU (.fa 1) 2 10, iU L1 10 11, iU (.fa 1) 3 12, iU L1 12 13, iD B3 11 13 14, iM 4 14]) .ret) .skip)) (.seq (.ops [iU (.fa 0) 2 15, iU L1 15 16, iU (.fa 0) 3 17, iU L1 17 18,
 iD B3 16 18 19, iM 4 19]) .ret)))
theorem fn72 : fnOf Try.prog 72 = some (20, [.t 4], ir72) := by kernel_rfl
def ir73 : C := (.seq (.ops [iU .box 1 4, iJ .mv [cI 0] 6, iJ .mv [.c zF] 7]) (.seq (.ops [iM 12 0, iU .len 12 13, iM 8 13]) (.seq (.ops [iM 14 8, iJ .mv [cI 0] 9, iM 10 14])
 (.seq (.block 0 (.loop (.seq (.seq (.ops [iM 15 9, iM 16 10, iD B3 15 16 17]) (.ite (.t 17) .skip (.exit 0))) (.block 1 (.seq (.ops [iM 18 9, iM 19 10, iD B2 18 19 20, iU (.cvI .u64) 20 21,
 iJ (.bin .shr) [.t 21, .c (.pv (.i .u64 1))] 22, iU (.cvI .i64) 22 23, iM 11 23]) (.seq (.any [30] [(iM 24 2, 0, [30]), (iM 25 0, 0, [30]), (iM 26 11, 0, [30]), (iD (.iaS 15) 25 26 27, 1, [30]),
 (iU (.ld 15 true) 27 28, 1, [30]), (iU L2 4 29, 1, [30]), (iJ .callv [.t 24, .t 28, .t 29] 30, 1, [30]), (iJ B3 [.t 30, cI 0] 31, 0, [])]) (.ite (.t 31) (.ops [iM 32 11, iJ B2 [.t 32, cI 1] 33,
 iM 9 33]) (.ops [iM 34 11, iM 10 34])))))))) (.seq (.any [46] [(iM 35 9, 0, [46]), (iM 36 9, 0, [46]), (iM 37 8, 0, [46]), (iD B3 36 37 38, 0, [46]), (iM 39 38, 0, [46]),
 (iV .mv 2 40 39 true, 0, [46]), (iV .mv 0 41 39 true, 0, [46]), (iV .mv 9 42 39 true, 0, [46]), (iG (.iaS 15) [.t 41, .t 42] 43 39 true, 1, [46]), (iV (.ld 15 true) 43 44 39 true, 1, [46]),
 (iV L2 4 45 39 true, 1, [46]), (iG .callv [.t 40, .t 44, .t 45] 46 39 true, 1, [46]), (iG B1 [.t 46, cI 0] 47 39 true, 0, []), (iJ .pick [.t 39, .t 47, .c zF] 48, 0, [46]), (iM 6 35, 0, []),
 (iM 7 48, 0, [])]) .ret)))))
theorem fn73 : fnOf Try.prog 73 = some (49, [.t 6, .t 7], ir73) := by kernel_rfl
def ir74 : C := (.seq (.ops [iU .box 0 2, iU .box 1 3, iJ .mv [cI 0] 4]) (.seq (.block 0 (.seq (.ops [iU (.fa 0) 2 6, iU L2 6 7, iU L2 3 8, iD (.call 72) 7 8 9, iM 5 9])
 (.ite (.t 5) (.seq (.ops [iJ .mv [.c (.pv (.i .i64 (-1)))] 4]) .ret) (.seq (.ops [iU L2 3 11, iU (.fa 0) 2 12, iU L2 12 13, iD (.call 72) 11 13 14, iM 10 14])
 (.ite (.t 10) (.seq (.ops [iJ .mv [cI 1] 4]) .ret) .skip))))) (.seq (.ops [iJ .mv [cI 0] 4]) .ret)))
theorem fn74 : fnOf Try.prog 74 = some (15, [.t 4], ir74) := by kernel_rfl
def ir77 : C := (.seq (.ops [iU .box 1 3, iJ .mv [cI 0] 4, iJ .mv [.c zF] 5]) (.seq (.ops [iM 6 0, iU L2 3 7, iJ (.call 88) [.t 6, .t 7, .c (.fn (.func 89) [])] 8, iU (.ext 0) 8 9, iU (.ext 1) 8 10,
 iM 4 9, iM 5 10]) .ret))
theorem fn77 : fnOf Try.prog 77 = some (11, [.t 4, .t 5], ir77) := by kernel_rfl
def ir78 : C := (.seq (.ops [iJ .mv [.c zN] 6]) (.seq (.ops [iM 10 0, iM 11 1, iD (.slv 15 true false) 10 11 12]) (.seq (.ops [iM 13 2, iU .len 13 14, iM 7 14]) (.seq (.seq (.ops [iM 15 7,
 iJ B1 [.t 15, cI 0] 16]) (.ite (.t 16) (.seq (.ops [iM 17 0, iM 6 17]) .ret) .skip)) (.seq (.ops [iM 18 0, iU .len 18 19, iM 8 19]) (.seq (.seq (.ops [iM 20 1, iM 21 8, iD B1 20 21 22])
 (.ite (.t 22) (.seq (.ops [iM 23 0, iM 24 2, iD (.app 15 96) 23 24 25, iM 6 25]) .ret) .skip)) (.seq (.seq (.ops [iM 26 8, iM 27 7, iD B2 26 27 28, iM 29 0, iU .cap 29 30, iD B4 28 30 31])
 (.ite (.t 31) (.seq (.ops [iM 32 0, iM 33 1, iD (.slv 15 false true) 32 33 34, iM 35 8, iM 36 7, iD B2 35 36 37, iM 38 1, iD B5 37 38 39,
 iD (.apz 15 96 [.i .i64 0, .i .u32 0, .i .i64 0, .i .u32 0, .s [], .i .i64 0, .i .u32 0, .i .u32 0, .i .u32 0, .i .u32 0, .i .u32 0, .i .u32 0, .i .u32 0, .i .u32 0, .i .u32 0]) 34 39 40, iM 9 40])
 (.seq (.ops [iM 41 9, iM 42 1, iD (.slv 15 true false) 41 42 43, iM 44 2, iD (.cpy 15) 43 44 45]) (.seq (.any [] [(iM 46 9, 0, []), (iM 47 1, 0, []), (iM 48 7, 0, []), (iD B2 47 48 49, 0, []),
 (iD (.slv 15 true false) 46 49 50, 1, []), (iM 51 0, 0, []), (iM 52 1, 0, []), (iD (.slv 15 true false) 51 52 53, 1, []), (iD (.cpy 15) 50 53 54, 2, [])]) (.seq (.ops [iM 55 9, iM 6 55]) .ret))))
 .skip)) (.seq (.ops [iM 56 0, iM 57 8, iM 58 7, iD B2 57 58 59, iD (.slx 15) 56 59 60, iM 0 60]) (.seq (.seq (.ops [iM 61 2, iM 62 0, iM 63 1, iM 64 7, iD B2 63 64 65,
 iD (.slv 15 true false) 62 65 66, iD (.call 91) 61 66 67, iU U1 67 68]) (.ite (.t 68) (.seq (.any [] [(iM 69 0, 0, []), (iM 70 1, 0, []), (iM 71 7, 0, []), (iD B2 70 71 72, 0, []),
 (iD (.slv 15 true false) 69 72 73, 1, []), (iM 74 0, 0, []), (iM 75 1, 0, []), (iD (.slv 15 true false) 74 75 76, 1, []), (iD (.cpy 15) 73 76 77, 2, [])]) (.seq (.ops [iM 78 0, iM 79 1,
 iD (.slv 15 true false) 78 79 80, iM 81 2, iD (.cpy 15) 80 81 82]) (.seq (.ops [iM 83 0, iM 6 83]) .ret))) .skip)) (.seq (.ops [iM 84 0, iM 85 8, iD (.slv 15 true false) 84 85 86, iM 87 2,
 iD (.cpy 15) 86 87 88]) (.seq (.ops [iM 89 0, iM 90 1, iD (.slc 15 true false false) 89 90 91, iM 92 7, iD (.call 92) 91 92 93]) (.seq (.ops [iM 94 0, iM 6 94]) .ret))))))))))))
theorem fn78 : fnOf Try.prog 78 = some (95, [.t 6], ir78) := by kernel_rfl
def ir79 : C := (.seq (.ops [iU .box 1 3, iJ .mv [.c zF] 4]) (.seq (.ops [iM 5 0, iU L2 3 6, iD (.call 93) 5 6 7, iJ B8 [.t 7, cI 0] 8, iM 4 8]) .ret))
theorem fn79 : fnOf Try.prog 79 = some (9, [.t 4], ir79) := by kernel_rfl
def ir80 : C := (.seq (.ops [iU .box 1 4, iU .box 2 5, iJ .mv [.c zN] 6]) (.seq (.ops [iM 10 0, iU (.call 46) 10 11, iM 7 11]) (.seq (.seq (.ops [iM 13 0, iU L2 4 14, iD (.call 77) 13 14 15, iM 12 15,
 iU (.ext 0) 12 16, iU (.ext 1) 12 17, iM 8 16, iM 9 17]) (.seq (.ops [iM 18 9]) (.ite (.t 18) (.any [27] [(iM 19 7, 0, [27]), (iM 20 8, 0, [27]), (iM 21 7, 0, [27]), (iM 22 8, 0, [27]),
 (iD (.iaS 15) 21 22 23, 1, [27]), (iU (.fa 7) 23 24, 0, [27]), (iU L8 24 25, 1, [27]), (iU L2 5 26, 1, [27]), (iD (.call 49) 25 26 27, 2, [27]), (iD (.iaS 15) 19 20 28, 1, []),
 (iU (.fa 7) 28 29, 0, []), (iO (.sto 8) [.t 29, .t 27], 2, [])]) .skip))) (.seq (.ops [iM 30 7, iM 6 30]) .ret))))
theorem fn80 : fnOf Try.prog 80 = some (31, [.t 6], ir80) := by kernel_rfl
def ir81 : C := (.seq (.ops [iU .box 1 3, iJ .mv [.c zS] 4, iJ .mv [cI 0] 5]) (.seq (.seq (.ops [iU L2 3 8, iJ (.bld [1, 1]) [cI 0, .c zU] 9, iD (.eqv false [.int .i64, .int .u32]) 8 9 10])
 (.ite (.t 10) (.seq (.ops [iJ .mv [.c zS] 4, iJ .mv [cI 0] 5]) .ret) .skip)) (.seq (.ops [iM 12 0, iU L2 3 13, iD (.call 84) 12 13 14, iM 11 14, iU (.ext 0) 11 15, iU (.ext 1) 11 16, iM 6 15,
 iM 7 16]) (.seq (.seq (.ops [iM 17 7, iU U1 17 18]) (.ite (.t 18) (.seq (.ops [iJ .mv [.c zS] 4, iJ .mv [cI 2] 5]) .ret) .skip)) (.seq (.ops [iM 19 0, iM 20 6, iD (.iaS 11) 19 20 21,
 iU (.fa 2) 21 22, iU L1 22 23, iM 4 23, iJ .mv [cI 0] 5]) .ret)))))
theorem fn81 : fnOf Try.prog 81 = some (24, [.t 4, .t 5], ir81) := by kernel_rfl
def ir82 : C := (.seq (.ops [iJ .mv [.c zS] 4, iJ .mv [cI 0] 5]) (.seq (.seq (.ops [iM 6 1, iJ B3 [.t 6, cI 0] 7, iM 8 7, iV .mv 1 9 8 false, iG B4 [.t 9, cI 200] 10 8 false,
 iJ .pick [.t 8, .c zT, .t 10] 11]) (.ite (.t 11) (.seq (.ops [iJ .mv [.c zS] 4, iJ .mv [cI 4] 5]) .ret) .skip)) (.seq (.seq (.ops [iM 12 1, iM 13 0, iU .lenS 13 14, iD B3 12 14 15])
 (.ite (.t 15) (.seq (.ops [iM 16 0, iM 17 1, iD (.sls false true) 16 17 18, iM 4 18, iJ .mv [cI 0] 5]) .ret) .skip)) (.seq (.ops [iM 19 0, iM 20 1, iM 21 0, iU .lenS 21 22, iD B5 20 22 23,
 iD (.mks [.i .u8 0] 1) 23 23 24, iU .b2s 24 25, iD B2 19 25 26, iM 4 26, iJ .mv [cI 0] 5]) .ret))))
theorem fn82 : fnOf Try.prog 82 = some (27, [.t 4, .t 5], ir82) := by kernel_rfl
def ir83 : C := (.seq (.ops [iJ .mv [.c zS] 6, iJ .mv [cI 0] 7]) (.seq (.seq (.ops [iM 9 1, iJ B3 [.t 9, cI 0] 10, iM 11 10, iV .mv 1 12 11 false, iG B4 [.t 12, cI 200] 13 11 false,
 iJ .pick [.t 11, .c zT, .t 13] 14, iM 15 14, iV .mv 0 16 15 false, iV .lenS 16 17 15 false, iG B4 [.t 17, cI 200] 18 15 false, iJ .pick [.t 15, .c zT, .t 18] 19, iM 20 19, iV .mv 2 21 20 false,
 iV .lenS 21 22 20 false, iV .mv 1 23 20 false, iG B5 [cI 200, .t 23] 24 20 false, iG B4 [.t 22, .t 24] 25 20 false, iJ .pick [.t 20, .c zT, .t 25] 26]) (.ite (.t 26) (.seq (.ops [iJ .mv [.c zS] 6,
 iJ .mv [cI 4] 7]) .ret) .skip)) (.seq (.ops [iM 27 0, iU .s2b 27 28, iM 8 28]) (.seq (.block 0 (.loop (.seq (.seq (.ops [iM 29 8, iU .len 29 30, iM 31 1, iM 32 2, iU .lenS 32 33, iD B2 31 33 34,
 iD B3 30 34 35]) (.ite (.t 35) .skip (.exit 0))) (.block 1 (.ops [iM 36 8, iJ (.bsl 1) [.c (.pv (.i .u8 0))] 37, iD (.app 1 1) 36 37 38, iM 8 38]))))) (.seq (.ops [iM 39 8, iM 40 1,
 iD (.slv 1 true false) 39 40 41, iM 42 2, iD (.cpy 1) 41 42 43]) (.seq (.ops [iM 44 8, iU .b2s 44 45, iM 6 45, iJ .mv [cI 0] 7]) .ret))))))
theorem fn83 : fnOf Try.prog 83 = some (46, [.t 6, .t 7], ir83) := by kernel_rfl
def ir84 : C := (.seq (.ops [iU .box 1 3, iJ .mv [cI 0] 4, iJ .mv [.c zF] 5]) (.seq (.seq (.ops [iM 8 0, iU .len 8 9, iJ .mv [cI 0] 10]) (.block 0 (.loop (.seq (.ops [iD B3 10 9 11])
 (.seq (.ite (.t 11) .skip (.exit 0)) (.seq (.block 1 (.seq (.ops [iM 12 10, iD (.iaS 11) 8 10 13, iU (.ld 11 true) 13 14, iJ (.new (.agg [zI, zU, zS, zV])) [] 7, iM 6 12, iO (.sto 11) [.t 7, .t 14]])
 (.seq (.seq (.ops [iU (.fa 0) 7 15, iU L2 15 16, iU L2 3 17, iD (.eqv false [.int .i64, .int .u32]) 16 17 18]) (.ite (.t 18) (.seq (.ops [iM 19 6, iM 4 19, iJ .mv [.c zT] 5]) .ret) .skip))
 (.seq (.ops [iU L2 3 20, iU (.fa 0) 7 21, iU L2 21 22, iD (.call 72) 20 22 23]) (.ite (.t 23) (.seq (.ops [iM 24 6, iM 4 24, iJ .mv [.c zF] 5]) .ret) .skip))))) (.ops [iJ B2 [.t 10, cI 1] 25,
 iM 10 25]))))))) (.seq (.ops [iM 26 0, iU .len 26 27, iM 4 27, iJ .mv [.c zF] 5]) .ret)))
theorem fn84 : fnOf Try.prog 84 = some (28, [.t 4, .t 5], ir84) := by kernel_rfl
def ir85 : C := (.seq (.ops [iJ .mv [.c zN] 6]) (.seq (.ops [iM 10 0, iM 11 1, iD (.slv 11 true false) 10 11 12]) (.seq (.ops [iM 13 2, iU .len 13 14, iM 7 14]) (.seq (.seq (.ops [iM 15 7,
 iJ B1 [.t 15, cI 0] 16]) (.ite (.t 16) (.seq (.ops [iM 17 0, iM 6 17]) .ret) .skip)) (.seq (.ops [iM 18 0, iU .len 18 19, iM 8 19]) (.seq (.seq (.ops [iM 20 1, iM 21 8, iD B1 20 21 22])
 (.ite (.t 22) (.seq (.ops [iM 23 0, iM 24 2, iD (.app 11 64) 23 24 25, iM 6 25]) .ret) .skip)) (.seq (.seq (.ops [iM 26 8, iM 27 7, iD B2 26 27 28, iM 29 0, iU .cap 29 30, iD B4 28 30 31])
 (.ite (.t 31) (.seq (.ops [iM 32 0, iM 33 1, iD (.slv 11 false true) 32 33 34, iM 35 8, iM 36 7, iD B2 35 36 37, iM 38 1, iD B5 37 38 39,
 iD (.apz 11 64 [.i .i64 0, .i .u32 0, .s [], .i .u32 0, .i .u32 0, .i .u32 0, .i .u32 0, .i .u32 0, .i .u32 0, .i .u32 0, .i .u32 0]) 34 39 40, iM 9 40]) (.seq (.ops [iM 41 9, iM 42 1,
 iD (.slv 11 true false) 41 42 43, iM 44 2, iD (.cpy 11) 43 44 45]) (.seq (.any [] [(iM 46 9, 0, []), (iM 47 1, 0, []), (iM 48 7, 0, []), (iD B2 47 48 49, 0, []),
 (iD (.slv 11 true false) 46 49 50, 1, []), (iM 51 0, 0, []), (iM 52 1, 0, []), (iD (.slv 11 true false) 51 52 53, 1, []), (iD (.cpy 11) 50 53 54, 2, [])]) (.seq (.ops [iM 55 9, iM 6 55]) .ret))))
 .skip)) (.seq (.ops [iM 56 0, iM 57 8, iM 58 7, iD B2 57 58 59, iD (.slx 11) 56 59 60, iM 0 60]) (.seq (.seq (.ops [iM 61 2, iM 62 0, iM 63 1, iM 64 7, iD B2 63 64 65,
 iD (.slv 11 true false) 62 65 66, iD (.call 94) 61 66 67, iU U1 67 68]) (.ite (.t 68) (.seq (.any [] [(iM 69 0, 0, []), (iM 70 1, 0, []), (iM 71 7, 0, []), (iD B2 70 71 72, 0, []),
 (iD (.slv 11 true false) 69 72 73, 1, []), (iM 74 0, 0, []), (iM 75 1, 0, []), (iD (.slv 11 true false) 74 75 76, 1, []), (iD (.cpy 11) 73 76 77, 2, [])]) (.seq (.ops [iM 78 0, iM 79 1,
 iD (.slv 11 true false) 78 79 80, iM 81 2, iD (.cpy 11) 80 81 82]) (.seq (.ops [iM 83 0, iM 6 83]) .ret))) .skip)) (.seq (.ops [iM 84 0, iM 85 8, iD (.slv 11 true false) 84 85 86, iM 87 2,
 iD (.cpy 11) 86 87 88]) (.seq (.ops [iM 89 0, iM 90 1, iD (.slc 11 true false false) 89 90 91, iM 92 7, iD (.call 95) 91 92 93]) (.seq (.ops [iM 94 0, iM 6 94]) .ret))))))))))))
theorem fn85 : fnOf Try.prog 85 = some (95, [.t 6], ir85) := by kernel_rfl
def ir86 : C := (.seq (.ops [iJ .mv [cI 0] 4]) (.block 0 (.seq (.ops [iM 161 1, iJ B7 [.c (.pv (.i .i32 0)), .t 161] 162, iM 163 162, iV .mv 1 164 163 true,
 iG B3 [.t 164, .c (.pv (.i .i32 128))] 165 163 true, iJ .pick [.t 163, .t 165, .c zF] 166, iM 160 166]) (.ite (.t 160) (.seq (.ops [iM 167 0, iM 168 1, iU (.cvI .u8) 168 169,
 iD (.call 96) 167 169 170, iM 4 170]) .ret) (.seq (.ops [iM 172 1, iJ B1 [.t 172, .c (.pv (.i .i32 65533))] 173, iM 171 173]) (.ite (.t 171) (.seq (.seq (.ops [iM 174 0, iU .rgs 174 175])
 (.block 9 (.loop (.seq (.ops [iU .nxs 175 176, iU (.ext 0) 176 177]) (.seq (.ite (.t 177) .skip (.exit 9)) (.block 10 (.seq (.ops [iU (.ext 1) 176 178, iU (.ext 2) 176 179, iM 5 178, iM 6 179])
 (.seq (.ops [iM 180 6, iJ B1 [.t 180, .c (.pv (.i .i32 65533))] 181]) (.ite (.t 181) (.seq (.ops [iM 182 5, iM 4 182]) .ret) .skip))))))))) (.seq (.ops [iJ .mv [.c (.pv (.i .i64 (-1)))] 4]) .ret))
 (.seq (.ops [iM 184 1, iU (.call 97) 184 185, iU U1 185 186, iM 183 186]) (.ite (.t 183) (.seq (.ops [iJ .mv [.c (.pv (.i .i64 (-1)))] 4]) .ret) (.seq (.ops [iM 17 1, iU .r2s 17 18, iM 7 18])
 (.seq (.ops [iM 19 7, iU .lenS 19 20, iJ B5 [.t 20, cI 1] 21, iM 8 21]) (.seq (.ops [iM 22 8, iM 9 22]) (.seq (.ops [iJ .mv [cI 0] 10]) (.seq (.block 1 (.loop (.seq (.seq (.ops [iM 23 9, iM 24 0,
 iU .lenS 24 25, iD B3 23 25 26]) (.ite (.t 26) .skip (.exit 1))) (.block 2 (.seq (.seq (.any [] [(iM 27 0, 0, []), (iM 28 9, 0, []), (iD .ixS 27 28 29, 0, []), (iM 30 7, 0, []), (iM 31 8, 0, []),
 (iD .ixS 30 31 32, 0, []), (iD B6 29 32 33, 0, [])]) (.ite (.t 33) (.seq (.any [41] [(iM 34 0, 0, [41]), (iM 35 9, 0, [41]), (iJ B2 [.t 35, cI 1] 36, 0, [41]),
 (iD (.sls true false) 34 36 37, 0, [41]), (iM 38 7, 0, [41]), (iM 39 8, 0, [41]), (iD .ixS 38 39 40, 0, [41]), (iD (.call 96) 37 40 41, 3, [41]), (iM 11 41, 0, [])]) (.seq (.seq (.ops [iM 42 11,
 iJ B3 [.t 42, cI 0] 43]) (.ite (.t 43) (.seq (.ops [iJ .mv [.c (.pv (.i .i64 (-1)))] 4]) .ret) .skip)) (.ops [iM 44 9, iM 45 11, iJ B2 [.t 45, cI 1] 46, iD B2 44 46 47, iM 9 47]))) .skip))
 (.seq (.seq (.ops [iJ .mv [cI 1] 12]) (.block 3 (.loop (.seq (.seq (.ops [iM 48 12, iM 49 7, iU .lenS 49 50, iD B3 48 50 51]) (.ite (.t 51) .skip (.exit 3)))
 (.seq (.block 4 (.seq (.any [] [(iM 54 0, 0, []), (iM 55 9, 0, []), (iM 56 12, 0, []), (iD B5 55 56 57, 0, []), (iD .ixS 54 57 58, 0, []), (iM 59 7, 0, []), (iM 60 8, 0, []), (iM 61 12, 0, []),
 (iD B5 60 61 62, 0, []), (iD .ixS 59 62 63, 0, []), (iD B6 58 63 64, 0, [])]) (.ite (.t 64) .bad .skip))) (.ops [iM 52 12, iJ B2 [.t 52, cI 1] 53, iM 12 53])))))) (.seq (.seq (.ops [iM 65 9, iM 66 8,
 iD B5 65 66 67, iM 4 67]) .ret) (.seq .skip (.seq (.ops [iM 68 10, iJ B2 [.t 68, cI 1] 69, iM 10 69]) (.seq (.ops [iM 70 9, iJ B2 [.t 70, cI 1] 71, iM 9 71]) (.seq (.ops [iJ .mv [.c zT] 72,
 iV .mv 10 73 72 true, iV .mv 9 74 72 true, iV (.call 98) 74 75 72 true, iG B4 [.t 73, .t 75] 76 72 true, iJ .pick [.t 72, .t 76, .c zF] 77, iM 78 77, iV .mv 9 79 78 true, iV .mv 0 80 78 true,
 iV .lenS 80 81 78 true, iG B3 [.t 79, .t 81] 82 78 true, iJ .pick [.t 78, .t 82, .c zF] 83, iM 84 83, iG .mv [.c zF] 85 84 false, iV .mv 10 86 85 true, iV .mv 9 87 85 true,
 iG (.bin .shr) [.t 87, .c (.pv (.i .u64 4))] 88 85 true, iG B2 [cI 4, .t 88] 89 85 true, iG B8 [.t 86, .t 89] 90 85 true, iG .pick [.t 85, .t 90, .c zF] 91 84 false, iV .mv 91 92 84 false,
 iV .mv 9 93 92 true, iV .mv 0 94 92 true, iV .lenS 94 95 92 true, iG B3 [.t 93, .t 95] 96 92 true, iG .pick [.t 92, .t 96, .c zF] 97 84 false, iJ .pick [.t 84, .c zT, .t 97] 98]) (.ite (.t 98) .bad
 .skip)))))))))))) (.seq (.seq (.ops [iJ .mv [.c (.pv (.i .i64 (-1)))] 4]) .ret) (.seq .skip (.seq (.ite (.c zT) (.seq (.ops [iM 99 0, iM 100 9, iM 101 8, iD B5 100 101 102,
 iD (.sls true false) 99 102 103, iM 104 1, iU .r2s 104 105, iD (.call 99) 103 105 106, iM 13 106]) (.seq (.ops [iM 107 13, iJ B8 [.t 107, cI 0] 108]) (.ite (.t 108) (.seq (.ops [iM 109 9, iM 110 13,
 iD B2 109 110 111, iM 112 8, iD B5 111 112 113, iM 4 113]) .ret) .skip))) (.seq (.ops [iM 114 7, iM 115 8, iD .ixS 114 115 116, iM 14 116]) (.seq (.ops [iM 117 7, iM 118 8, iJ B5 [.t 118, cI 1] 119,
 iD .ixS 117 119 120, iM 15 120]) (.seq .skip (.block 5 (.loop (.seq (.seq (.ops [iM 121 9, iM 122 0, iU .lenS 122 123, iD B3 121 123 124]) (.ite (.t 124) .skip (.exit 5)))
 (.seq (.block 6 (.seq (.ops [iM 127 0, iM 128 9, iD .ixS 127 128 129, iM 130 14, iD B1 129 130 131, iM 132 131, iV .mv 0 133 132 true, iV .mv 9 134 132 true, iG B5 [.t 134, cI 1] 135 132 true,
 iG .ixS [.t 133, .t 135] 136 132 true, iV .mv 15 137 132 true, iG B1 [.t 136, .t 137] 138 132 true, iJ .pick [.t 132, .t 138, .c zF] 139]) (.ite (.t 139) (.seq (.seq (.ops [iJ .mv [cI 2] 16])
 (.block 7 (.loop (.seq (.seq (.ops [iM 140 16, iM 141 7, iU .lenS 141 142, iD B3 140 142 143]) (.ite (.t 143) .skip (.exit 7))) (.seq (.block 8 (.seq (.any [] [(iM 146 0, 0, []), (iM 147 9, 0, []),
 (iM 148 16, 0, []), (iD B5 147 148 149, 0, []), (iD .ixS 146 149 150, 0, []), (iM 151 7, 0, []), (iM 152 8, 0, []), (iM 153 16, 0, []), (iD B5 152 153 154, 0, []), (iD .ixS 151 154 155, 0, []),
 (iD B6 150 155 156, 0, [])]) (.ite (.t 156) (.exit 6) .skip))) (.ops [iM 144 16, iJ B2 [.t 144, cI 1] 145, iM 16 145])))))) (.seq (.ops [iM 157 9, iM 158 8, iD B5 157 158 159, iM 4 159]) .ret))
 .skip))) (.ops [iM 125 9, iJ B2 [.t 125, cI 1] 126, iM 9 126]))))))))) (.seq (.ops [iJ .mv [.c (.pv (.i .i64 (-1)))] 4]) .ret)))))))))))))))))
theorem fn86 : fnOf Try.prog 86 = some (187, [.t 4], ir86) := by kernel_rfl
def ir88 : C := (.seq (.ops [iU .box 1 4, iJ .mv [cI 0] 6, iJ .mv [.c zF] 7]) (.seq (.ops [iM 12 0, iU .len 12 13, iM 8 13]) (.seq (.ops [iM 14 8, iJ .mv [cI 0] 9, iM 10 14])
 (.seq (.block 0 (.loop (.seq (.seq (.ops [iM 15 9, iM 16 10, iD B3 15 16 17]) (.ite (.t 17) .skip (.exit 0))) (.block 1 (.seq (.ops [iM 18 9, iM 19 10, iD B2 18 19 20, iU (.cvI .u64) 20 21,
 iJ (.bin .shr) [.t 21, .c (.pv (.i .u64 1))] 22, iU (.cvI .i64) 22 23, iM 11 23]) (.seq (.any [30] [(iM 24 2, 0, [30]), (iM 25 0, 0, [30]), (iM 26 11, 0, [30]), (iD (.iaS 15) 25 26 27, 1, [30]),
 (iU (.ld 15 true) 27 28, 1, [30]), (iU L2 4 29, 1, [30]), (iJ .callv [.t 24, .t 28, .t 29] 30, 1, [30]), (iJ B3 [.t 30, cI 0] 31, 0, [])]) (.ite (.t 31) (.ops [iM 32 11, iJ B2 [.t 32, cI 1] 33,
 iM 9 33]) (.ops [iM 34 11, iM 10 34])))))))) (.seq (.any [46] [(iM 35 9, 0, [46]), (iM 36 9, 0, [46]), (iM 37 8, 0, [46]), (iD B3 36 37 38, 0, [46]), (iM 39 38, 0, [46]),
 (iV .mv 2 40 39 true, 0, [46]), (iV .mv 0 41 39 true, 0, [46]), (iV .mv 9 42 39 true, 0, [46]), (iG (.iaS 15) [.t 41, .t 42] 43 39 true, 1, [46]), (iV (.ld 15 true) 43 44 39 true, 1, [46]),
 (iV L2 4 45 39 true, 1, [46]), (iG .callv [.t 40, .t 44, .t 45] 46 39 true, 1, [46]), (iG B1 [.t 46, cI 0] 47 39 true, 0, []), (iJ .pick [.t 39, .t 47, .c zF] 48, 0, [46]), (iM 6 35, 0, []),
 (iM 7 48, 0, [])]) .ret)))))
theorem fn88 : fnOf Try.prog 88 = some (49, [.t 6, .t 7], ir88) := by kernel_rfl
def ir89 : C := (.seq (.ops [iU .box 0 2, iU .box 1 3, iJ .mv [cI 0] 4]) (.seq (.ops [iU (.fa 0) 2 5, iU L2 5 6, iU L2 3 7, iD (.call 90) 6 7 8, iM 4 8]) .ret))
theorem fn89 : fnOf Try.prog 89 = some (9, [.t 4], ir89) := by kernel_rfl
def ir90 : C := (.seq (.ops [iU .box 0 2, iU .box 1 3, iJ .mv [cI 0] 4]) (.seq (.block 0 (.seq (.ops [iU L2 2 6, iU L2 3 7, iD (.call 72) 6 7 8, iM 5 8])
 (.ite (.t 5) (.seq (.ops [iJ .mv [.c (.pv (.i .i64 (-1)))] 4]) .ret) (.seq (.ops [iU L2 3 10, iU L2 2 11, iD (.call 72) 10 11 12, iM 9 12]) (.ite (.t 9) (.seq (.ops [iJ .mv [cI 1] 4]) .ret)
 .skip))))) (.seq (.ops [iJ .mv [cI 0] 4]) .ret)))
theorem fn90 : fnOf Try.prog 90 = some (13, [.t 4], ir90) := by kernel_rfl
def ir93 : C := (.seq (.ops [iU .box 1 3, iJ .mv [cI 0] 4]) (.seq (.seq (.ops [iM 6 0, iU .len 6 7, iJ .mv [cI 0] 8]) (.block 0 (.loop (.seq (.ops [iD B3 8 7 9]) (.seq (.ite (.t 9) .skip (.exit 0))
 (.seq (.block 1 (.seq (.ops [iM 10 8, iM 5 10]) (.seq (.any [] [(iU L2 3 11, 1, []), (iM 12 0, 0, []), (iM 13 5, 0, []), (iD (.iaS 2) 12 13 14, 1, []), (iU L2 14 15, 1, []),
 (iD (.eqv false [.int .i64, .int .u32]) 11 15 16, 0, [])]) (.ite (.t 16) (.seq (.ops [iM 17 5, iM 4 17]) .ret) .skip)))) (.ops [iJ B2 [.t 8, cI 1] 18, iM 8 18])))))))
 (.seq (.ops [iJ .mv [.c (.pv (.i .i64 (-1)))] 4]) .ret)))
theorem fn93 : fnOf Try.prog 93 = some (19, [.t 4], ir93) := by kernel_rfl
def ir96 : C := (.seq (.ops [iJ .mv [cI 0] 4]) (.seq (.ops [iM 5 0, iM 6 1, iD (.call 103) 5 6 7, iM 4 7]) .ret))
theorem fn96 : fnOf Try.prog 96 = some (8, [.t 4], ir96) := by kernel_rfl
def ir97 : C := (.seq (.ops [iJ .mv [.c zF] 2]) (.seq (.block 0 (.seq (.ops [iM 4 0, iJ B7 [.c (.pv (.i .i32 0)), .t 4] 5, iM 6 5, iV .mv 0 7 6 true, iG B3 [.t 7, .c (.pv (.i .i32 55296))] 8 6 true,
 iJ .pick [.t 6, .t 8, .c zF] 9, iM 3 9]) (.ite (.t 3) (.seq (.ops [iJ .mv [.c zT] 2]) .ret) (.seq (.ops [iM 11 0, iJ B3 [.c (.pv (.i .i32 57343)), .t 11] 12, iM 13 12, iV .mv 0 14 13 true,
 iG B7 [.t 14, .c (.pv (.i .i32 1114111))] 15 13 true, iJ .pick [.t 13, .t 15, .c zF] 16, iM 10 16]) (.ite (.t 10) (.seq (.ops [iJ .mv [.c zT] 2]) .ret) .skip))))) (.seq (.ops [iJ .mv [.c zF] 2])
 .ret)))
theorem fn97 : fnOf Try.prog 97 = some (17, [.t 2], ir97) := by kernel_rfl
def ir103 : C := (.seq (.ops [iJ .mv [cI 0] 4]) (.seq (.ops [iM 5 0, iM 6 1, iD (.call 106) 5 6 7, iM 4 7]) .ret))
theorem fn103 : fnOf Try.prog 103 = some (8, [.t 4], ir103) := by kernel_rfl
end Go.Proofs.Ythmjebkldgdeiaa.Fw
