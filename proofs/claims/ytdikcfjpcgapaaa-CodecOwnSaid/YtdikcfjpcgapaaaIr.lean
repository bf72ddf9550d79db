/- The functions of the program in the small language, each checked against the program. -/
import Derived.Test.YtdikcfjpcgapaaaFwD
import Derived.Test.YtdikcfjpcgapaaaProg
import Derived.ProofKit
set_option linter.unusedVariables false
set_option linter.unusedSimpArgs false
set_option linter.unusedSectionVars false
set_option maxRecDepth 100000
namespace Go.Proofs.Ytdikcfjpcgapaaa.Fw
open Go.Proofs
theorem Cr : Try.prog.follows .mixedOrders = true := by kernel_rfl
def ir3 : C := (jS [iJ .mv [.c zF] 2] (.seq (jS [iJ (.call 4) [] 13, iU U1 13 14, iM 15 14, jB .mv 0 16 15, jB (.call 5) 16 17 15, jB U1 17 18 15,
 jP 15 18 19] (jI 19 (jS [iJ (.call 4) [] 20, iM 2 20] .ret))) (jS [iJ .mv [.c zN] 3] (.seq (jS [iM 21 0, iU .len 21 22,
 jC 0 23] (.block 0 (.loop (jS [iD B3 23 22 24] (.seq (.ite (.t 24) .skip (.exit 0)) (.seq (.block 1 (jS [iD (.iaS 1) 21 23 25, iU L1 25 26, iM 5 26] (.ops [iM 27 3,
 iJ (.bsl 1) [] 28, iM 29 5, iD (.app 1 1) 28 29 30, iU (.bsl 1) 30 31, iD (.app 1 24) 27 31 32, iM 3 32]))) (.ops [jK B2 23 1 33, iM 23 33]))))))) (jS [iM 35 3, iU (.call 6) 35 36,
 iM 34 36, iU (.ext 0) 34 37, iU (.ext 1) 34 38, iM 6 37, iM 7 38] (jS [iM 40 6, iM 41 0, iU .len 41 42, iD (.call 7) 40 42 43, iM 39 43, iU (.ext 0) 39 44, iU (.ext 1) 39 45, iM 8 44,
 iM 9 45] (.seq (jS [iM 46 6, iU .len 46 47, jC 0 48] (.block 2 (.loop (jS [iD B3 48 47 49] (.seq (.ite (.t 49) .skip (.exit 2)) (.seq (.block 3 (jS [iM 50 48,
 iM 10 50] (.ops [iM 51 6, iM 52 10, iD (.iaS 1) 51 52 53, iU L1 53 54, iJ B2 [.t 54, .c (.pv (.i .u8 1))] 55, iD (.iaS 1) 51 52 56, jW 1 56 55]))) (.ops [jK B2 48 1 57,
 iM 48 57]))))))) (.seq (jS [iM 58 9, jK B6 58 0 59, iM 60 59, jB .mv 3 61 60, jB (.call 9) 61 62 60, jB .mv 0 63 60, jB (.call 9) 63 64 60,
 iG (.call 8) [.t 62, .t 64] 65 60 false, jB U1 65 66 60, jP 60 66 67, iM 68 67, jB .mv 8 69 68, jB (.call 9) 69 70 68, jB .mv 0 71 68,
 jB (.call 9) 71 72 68, iG (.call 8) [.t 70, .t 72] 73 68 false, jB U1 73 74 68, jP 68 74 75] (jI 75 (jS [iJ .mv [.c zF] 2] .ret)))
 (.seq (jS [iM 76 8, iU .len 76 77, jC 0 78] (.block 4 (.loop (jS [iD B3 78 77 79] (.seq (.ite (.t 79) .skip (.exit 4)) (.seq (.block 5 (jS [iM 80 78, iM 11 80]
 (jS [iM 81 8, iM 82 11, iD (.iaS 1) 81 82 83, iU L1 83 84, iU .len 84 85, jC 0 86] (.block 6 (.loop (jS [iD B3 86 85 87] (.seq (.ite (.t 87) .skip (.exit 6))
 (.seq (.block 7 (jS [iM 88 86, iM 12 88] (.ops [iM 89 8, iM 90 11, iD (.iaS 1) 89 90 91, iU L1 91 92, iM 93 12, iD (.iaS 1) 92 93 94, iU L1 94 95, iJ B2 [.t 95, .c (.pv (.i .u8 1))] 96,
 iD (.iaS 1) 92 93 97, jW 1 97 96]))) (.ops [jK B2 86 1 98, iM 86 98]))))))))) (.ops [jK B2 78 1 99, iM 78 99]))))))) (jS [iM 100 3, iU (.call 9) 100 101, iM 102 0,
 iU (.call 9) 102 103, iD (.call 8) 101 103 104, iM 2 104] .ret))))))))))
theorem fn3 : Ds Try.prog 3 = some (105, [.t 2], ir3) := by kernel_rfl
def ir4 : C := (jS [iJ .mv [.c zF] 0] (jS [iJ (.bsl 1) [.c (.pv (.i .u8 97))] 6, iU .b2b 6 7, iJ (.bsl 1) [.t 7, .c zN] 8, iU (.call 6) 8 9, iM 5 9, iU (.ext 0) 5 10,
 iU (.ext 1) 5 11, iM 1 10, iM 2 11] (jS [iM 13 1, jK (.call 7) 13 2 14, iM 12 14, iU (.ext 0) 12 15, iU (.ext 1) 12 16, iM 3 15, iM 4 16] (jS [iM 17 2,
 jK B1 17 0 18, iM 19 18, jA .mv 4 20 19, iG B1 [.t 20, cI 0] 21 19 true, jQ 19 21 22, iM 23 22, jA .mv 1 24 23, jA .b2s 24 25 23,
 iG B1 [.t 25, .c (.pv (.s [1, 97, 0]))] 26 23 true, jQ 23 26 27, iM 28 27, jA .mv 3 29 28, jA .len 29 30 28, iG B1 [.t 30, cI 2] 31 28 true,
 jQ 28 31 32, iM 33 32, jA .mv 3 34 33, iG (.iaS 1) [.t 34, cI 0] 35 33 true, jA L1 35 36 33, jA .b2s 36 37 33, iG B1 [.t 37, .c (.pv (.s [97]))] 38 33 true,
 jQ 33 38 39, iM 0 39] .ret))))
theorem fn4 : Ds Try.prog 4 = some (40, [.t 0], ir4) := by kernel_rfl
def ir5 : C := (jS [iJ .mv [.c zF] 2] (jS [jC 3000 3] (.seq (jS [iM 6 0, iU .len 6 7, jC 0 8] (.block 0 (.loop (jS [iD B3 8 7 9]
 (.seq (.ite (.t 9) .skip (.exit 0)) (.seq (.block 1 (jS [iD (.iaS 1) 6 8 10, iU L1 10 11, iM 5 11] (jS [iM 12 3, iM 13 5, iU .len 13 14, jK .mn 14 3000 15,
 jK B2 15 1 16, iD B5 12 16 17, iM 3 17] (jS [iM 18 3, jK B3 18 0 19] (jI 19 (jS [iJ .mv [.c zF] 2] .ret)))))) (.ops [jK B2 8 1 20,
 iM 8 20]))))))) (jS [iJ .mv [.c zT] 2] .ret))))
theorem fn5 : Ds Try.prog 5 = some (21, [.t 2], ir5) := by kernel_rfl
def ir6 : C := (jS [iJ .mv [.c zN] 2, jC 0 3] (jS [iJ (.bsl 1) [] 8, iM 4 8] (.seq (jS [iM 9 0, iU .len 9 10, jC 0 11]
 (.block 0 (.loop (jS [iD B3 11 10 12] (.seq (.ite (.t 12) .skip (.exit 0)) (.seq (.block 1 (jS [iD (.iaS 1) 9 11 13, iU L1 13 14, iM 6 14] (.seq (jS [iM 15 6, iU .len 15 16,
 iM 7 16] (.block 2 (jS [iM 26 7, jK B4 26 65535 27, iM 25 27] (.ite (.t 25) (jS [iJ .mv [.c zN] 2, jC 4 3] .ret) (jS [iM 29 7, jK B3 29 255 30,
 iM 28 30] (.ite (.t 28) (.ops [iM 31 4, iM 32 7, iU (.cvI .u8) 32 33, iU (.bsl 1) 33 34, iD (.app 1 1) 31 34 35, iM 4 35]) (.ops [iM 17 4, iM 18 7, iJ (.bin .shr) [.t 18, .c (.pv (.i .u64 8))] 19,
 iU (.cvI .u8) 19 20, iM 21 7, iU (.cvI .u8) 21 22, iJ (.bsl 1) [.c (.pv (.i .u8 255)), .t 20, .t 22] 23, iD (.app 1 1) 17 23 24, iM 4 24]))))))) (.ops [iM 36 4, iM 37 6, iD (.app 1 1) 36 37 38,
 iM 4 38])))) (.ops [jK B2 11 1 39, iM 11 39]))))))) (jS [iM 40 4, iM 2 40, jC 0 3] .ret))))
theorem fn6 : Ds Try.prog 6 = some (41, [.t 2, .t 3], ir6) := by kernel_rfl
def ir7 : C := (jS [iU .box 1 3, iJ (.new zN) [] 4, iJ (.new zI) [] 5] (jS [iJ (.new zN) [] 6] (.seq (jS [iM 9 0, iU (.call 10) 9 10]
 (.block 0 (.rng (.t 10) [11, 12] (jS [iM 7 11] (.ops [iM 8 12])) (.block 1 (.seq (jS [iM 13 8, jK B6 13 0 14] (jI 14 (jS [iM 15 8, iO S1 [.t 4, .c zN],
 jW 1 5 15] .ret))) (.seq (jS [iU L1 6 16, iU .len 16 17, iU L1 3 18, iD B8 17 18 19] (jI 19 (jS [iO S1 [.t 4, .c zN], iO S1 [.t 5, cI 4]] .ret)))
 (.ops [iU L1 6 20, iM 21 7, iU (.bsl 1) 21 22, iD (.app 1 24) 20 22 23, jW 1 6 23]))))))) (jS [iU L1 6 24, jW 1 4 24, iO S1 [.t 5, cI 0]] .ret))))
theorem fn7 : Ds Try.prog 7 = some (25, [.c 4 1 false, .c 5 1 false], ir7) := by kernel_rfl
def ir8 : C := (jS [iJ .mv [.c zF] 4] (.seq (jS [iM 6 0, iU .len 6 7, iM 8 1, iU .len 8 9, iD B6 7 9 10] (jI 10 (jS [iJ .mv [.c zF] 4] .ret)))
 (.seq (jS [iM 11 0, iU .len 11 12, jC 0 13] (.block 0 (.loop (jS [iD B3 13 12 14] (.seq (.ite (.t 14) .skip (.exit 0)) (.seq (.block 1 (jS [iM 15 13, iM 5 15]
 (.seq (.any [] [(iM 16 0, 0, []), (iM 17 5, 0, []), (iD (.iaS 1) 16 17 18, 1, []), (iU L1 18 19, 1, []), (iM 20 1, 0, []), (iM 21 5, 0, []), (iD (.iaS 1) 20 21 22, 1, []), (iU L1 22 23, 1, []),
 (iD B6 19 23 24, 0, [])]) (jI 24 (jS [iJ .mv [.c zF] 4] .ret))))) (.ops [jK B2 13 1 25, iM 13 25]))))))) (jS [iJ .mv [.c zT] 4] .ret))))
theorem fn8 : Ds Try.prog 8 = some (26, [.t 4], ir8) := by kernel_rfl
def ir9 : C := (jS [iJ .mv [.c zN] 2] (jS [iJ .mv [.c zN] 3] (.seq (jS [iM 6 0, iU .len 6 7, jC 0 8] (.block 0 (.loop (jS [iD B3 8 7 9]
 (.seq (.ite (.t 9) .skip (.exit 0)) (.seq (.block 1 (jS [iD (.iaS 1) 6 8 10, iU L1 10 11, iM 5 11] (.ops [iM 12 3, iM 13 5, iU .b2s 13 14, iU (.bsl 1) 14 15, iD (.app 1 16) 12 15 16,
 iM 3 16]))) (.ops [jK B2 8 1 17, iM 8 17]))))))) (jS [iM 18 3, iM 2 18] .ret))))
theorem fn9 : Ds Try.prog 9 = some (19, [.t 2], ir9) := by kernel_rfl
def ir10 : C := (jS [iJ .mv [.c (.pv (.v .nilFunc))] 2] (jS [iJ (.bsl 1) [] 4, iM 5 0, iD (.app 1 1) 4 5 6, iJ (.new zN) [] 3, jW 1 3 6]
 (jS [iU (.mkf (.func 11)) 3 7, iM 2 7] .ret)))
theorem fn10 : Ds Try.prog 10 = some (8, [.t 2], ir10) := by kernel_rfl
def ir11 : C := (jS [iU L1 1 7, iM 3 7] (.block 0 (.loop (.seq (jS [iM 8 3, iU .len 8 9, jK B4 9 0 10] (.ite (.t 10) .skip (.exit 0))) (.block 1 (jS [iM 12 3,
 iU (.call 12) 12 13, iM 11 13, iU (.ext 0) 11 14, iU (.ext 1) 11 15, iU (.ext 2) 11 16, iM 4 14, iM 5 15, iM 6 16] (.seq (jS [iM 17 6, jK B1 17 0 18, iM 19 18, jA .mv 4 20 19,
 jA .mv 3 21 19, jA .len 21 22 19, jA .mv 5 23 19, iG B5 [.t 22, .t 23] 24 19 true, iG B4 [.t 20, .t 24] 25 19 true, jQ 19 25 26]
 (jI 26 (.ops [jC 8 6]))) (.seq (jS [iM 27 6, jK B6 27 0 28] (jI 28 (jS [iM 29 0, iM 30 6, iJ .yv [.t 29, .c zN, .t 30] 31] .ret)))
 (.seq (jS [iM 32 0, iJ (.bsl 1) [] 33, iM 34 3, iM 35 5, iM 36 5, iM 37 4, iD B2 36 37 38, iJ (.slc 1 true true false) [.t 34, .t 35, .t 38] 39, iD (.app 1 1) 33 39 40,
 iJ .yv [.t 32, .t 40, cI 0] 41, iU U1 41 42] (jI 42 .ret)) (.ops [iM 43 3, iM 44 5, iM 45 4, iD B2 44 45 46, iD (.slc 1 true false false) 43 46 47, iM 3 47]))))))))))
theorem fn11 : Ds Try.prog 11 = some (48, [], ir11) := by kernel_rfl
def ir12 : C := (jS [jC 0 2, jC 0 3, jC 0 4] (.seq (jS [iM 6 0, jK (.iaS 1) 6 0 7, iU L1 7 8, iJ B3 [.t 8, .c (.pv (.i .u8 255))] 9]
 (jI 9 (jS [iM 10 0, jK (.iaS 1) 10 0 11, iU L1 11 12, iU (.cvI .i64) 12 13, iM 2 13, jC 1 3, jC 0 4] .ret))) (.seq (jS [iM 14 0,
 iU .len 14 15, jK B3 15 3 16] (jI 16 (jS [jC 0 2, jC 0 3, jC 8 4] .ret))) (.seq (.any [] [(iM 17 0, 0, []),
 (jK (.iaS 1) 17 1 18, 1, []), (iU L1 18 19, 1, []), (iU (.cvI .i64) 19 20, 0, []), (iJ (.bin .shl) [.t 20, .c (.pv (.i .u64 8))] 21, 0, []), (iM 22 0, 0, []),
 (jK (.iaS 1) 22 2 23, 1, []), (iU L1 23 24, 1, []), (iU (.cvI .i64) 24 25, 0, []), (iD (.bin .or) 21 25 26, 0, []), (iM 5 26, 0, [])]) (.seq (jS [iM 27 5, jK B3 27 255 28]
 (jI 28 (jS [jC 0 2, jC 0 3, jC 7 4] .ret))) (jS [iM 29 5, iM 2 29, jC 3 3, jC 0 4] .ret))))))
theorem fn12 : Ds Try.prog 12 = some (30, [.t 2, .t 3, .t 4], ir12) := by kernel_rfl
end Go.Proofs.Ytdikcfjpcgapaaa.Fw
