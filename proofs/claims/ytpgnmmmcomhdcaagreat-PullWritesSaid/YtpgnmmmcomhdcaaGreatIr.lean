/- The functions of the program in the small language, each checked against the program. -/
import Derived.Test.YtpgnmmmcomhdcaaGreatFwD
import Derived.Test.YtpgnmmmcomhdcaaGreatProg
import Derived.ProofKit
set_option linter.unusedVariables false
set_option linter.unusedSimpArgs false
set_option linter.unusedSectionVars false
set_option maxRecDepth 100000
namespace Go.Proofs.YtpgnmmmcomhdcaaGreat.Fw
open Go.Proofs
theorem Ao : Tryz.prog.follows .mixedOrders = true := by kernel_rfl
def ir3 : C := (jS [iU .box 0 1, iJ .mv [.c zF] 2] (.seq (jS [iJ (.call 4) [] 7, iU U1 7 8, iM 9 8, jN 75 1 10 9, jB L1 10 11 9, jB (.call 5) 11 12 9,
 jB U1 12 13 9, jP 9 13 14] (jI 14 (jS [iJ (.call 4) [] 15, iM 2 15] .ret))) (jS [iU (.ld 76 true) 1 17, iU (.call 6) 17 18, iM 16 18,
 iU (.ext 0) 16 19, iU (.ext 1) 16 20, iM 3 19, iM 4 20] (.seq (.seq (.any [22, 24] [(iU (.ld 76 true) 1 21, 1, [22, 24]), (iU (.call 7) 21 22, 1, [22, 24]), (iU (.ld 76 true) 1 23, 1, [22, 24]),
 (iU (.call 8) 23 24, 3, [24]), (iD (.binB .neq) 22 24 25, 0, [])]) (jI 25 (jS [iJ .mv [.c zF] 2] .ret))) (.seq (jS [iU (.ld 76 true) 1 26, iU (.call 8) 26 27,
 iU U1 27 28] (jI 28 (jS [iM 29 4, jK B1 29 7 30, iM 31 30, jA .mv 3 32 31, jA .len 32 33 31, iG B1 [.t 33, cI 0] 34 31 true, jQ 31 34 35,
 iM 2 35] .ret))) (jS [iM 37 3, iU (.call 9) 37 38, iM 36 38, iU (.ext 0) 36 39, iU (.ext 1) 36 40, iJ (.new (.agg [zI, zI, zI, zV, .vec 64 (List.replicate 64 (.i .u32 0)), zN])) [] 5,
 jW 76 5 39, iM 6 40] (.seq (.any [51, 57] [(iM 41 4, 0, [51, 57]), (jK B1 41 0 42, 0, [51, 57]), (iM 43 42, 0, [51, 57]), (jA .mv 6 44 43, 0, [51, 57]),
 (iG B1 [.t 44, cI 0] 45 43 true, 0, [51, 57]), (jQ 43 45 46, 0, [51, 57]), (iM 47 46, 0, [51, 57]), (jA .mv 3 48 47, 0, [51, 57]), (jA .b2s 48 49 47, 1, [51, 57]),
 (jA (.ld 76 true) 1 50 47, 1, [51, 57]), (jA (.call 10) 50 51 47, 1, [51, 57]), (iG B1 [.t 49, .t 51] 52 47 true, 0, [57]), (jQ 47 52 53, 0, [51, 57]),
 (iM 54 53, 0, [57]), (jA (.ld 76 true) 5 55 54, 1, [51, 57]), (jA (.ld 76 true) 1 56 54, 1, [51, 57]), (iG (.call 11) [.t 55, .t 56] 57 54 true, 3, [51, 57]),
 (jQ 54 57 58, 0, [51]), (iM 2 58, 0, [])]) .ret)))))))
theorem fn3 : A5 Tryz.prog 3 = some (59, [.t 2], ir3) := by kernel_rfl
def ir4 : C := (jS [iJ .mv [.c zF] 0] (jS [iJ (.bld [8, 1, 1, 8, 8]) [.c zV, .c zN, .c zN, .c zW, .c zX] 7, iU (.call 12) 7 8,
 iJ (.bld [8, 1, 1, 8, 8]) [.c zV, .c zN, .c zN, .c zW, .c zX] 9, iU (.call 12) 9 10, iM 1 8, iM 2 10] (.seq (jS [iM 11 1, iU (.eqv false []) 11 12, iM 13 12, jB .mv 1 14 13,
 iG (.bld [1, 1]) [cI 1, .c (.pv (.i .u32 1))] 15 13 false,
 iG (.bld [2, 8, 1, 2, 2, 1, 1, 1, 1, 1, 1]) [.t 15, .c zV, cI 1, .c (.agg [zI, zU]), .c (.agg [zI, zU]), .c (.pv (.s [97])), .c zN, .c zN, cI 0, .c zS, cI 0] 16 13 false,
 iG (.call 13) [.t 14, .t 16] 17 13 false, iG B6 [.t 17, cI 0] 18 13 false, jP 13 18 19] (jI 19 (jS [iJ .mv [.c zF] 0] .ret))) (jS [iM 21 1,
 iJ (.bldV 64 8) [.c zV, .c zV, .c zV, .c zV, .c zV, .c zV, .c zV, .c zV] 22, iM 23 2, iJ (.bldV 64 8) [.c zV, .c zV, .c zV, .c zV, .c zV, .c zV, .c zV, .c zV] 24,
 iJ (.call 15) [.t 23, .t 24, cI 2, cI 1] 25, iJ (.call 14) [.t 21, .t 22, cI 1, .t 25] 26, iM 20 26, iU (.ext 0) 20 27, iU (.ext 1) 20 28,
 iJ (.new (.agg [zI, zI, zI, zV, .vec 64 (List.replicate 64 (.i .u32 0)), zN])) [] 3, jW 76 3 27, iM 4 28] (.seq (.any [31, 33, 6] [(iM 30 2, 0, [31, 33, 6]),
 (iU (.call 17) 30 31, 1, [31, 33, 6]), (iU (.ld 76 true) 3 32, 1, [31, 33, 6]), (iD (.call 16) 31 32 33, 1, [33, 6]), (iM 29 33, 0, [31, 6]), (iU (.ext 0) 29 34, 0, [31, 33, 6]),
 (iU (.ext 1) 29 35, 0, [31, 33, 6]), (iJ (.new (.agg [zV, zN, zN, zW, zX])) [] 6, 1, [31, 33, 6]), (iM 5 34, 0, []), (jW 26 6 35, 2, [])]) (jS [iM 36 4,
 jK B1 36 0 37, iM 38 37, jL 75 3 39 38, jA L1 39 40 38, jA .len 40 41 38, iG B1 [.t 41, cI 1] 42 38 true, jQ 38 42 43, iM 44 43,
 jL 2 3 45 44, jA L1 45 46 44, iG B1 [.t 46, cI 2] 47 44 true, jQ 44 47 48, iM 49 48, jA .mv 5 50 49, jA .len 50 51 49, iG B1 [.t 51, cI 1] 52 49 true,
 jQ 49 52 53, iM 54 53, jL 0 6 55 54, jA L8 55 56 54, iG (.bldV 8 1) [.c (.pv (.i .u32 1)), .c zU, .c zU, .c zU, .c zU, .c zU, .c zU, .c zU] 57 54 true,
 iG (.eqv false [.int .u32, .int .u32, .int .u32, .int .u32, .int .u32, .int .u32, .int .u32, .int .u32]) [.t 56, .t 57] 58 54 true, jQ 54 58 59, iM 0 59] .ret))))))
theorem fn4 : A5 Tryz.prog 4 = some (60, [.t 0], ir4) := by kernel_rfl
def ir5 : C := (jS [iJ .mv [.c zF] 2] (.seq (jS [iM 5 0, iU .len 5 6, jK B4 6 25 7] (jI 7 (jS [iJ .mv [.c zF] 2] .ret))) (.seq (jS [iM 8 0,
 iU .len 8 9, jC 0 10] (.block 0 (.loop (jS [iD B3 10 9 11] (.seq (.ite (.t 11) .skip (.exit 0)) (.seq (.block 1 (jS [iD (.iaS 21) 8 10 12, iU (.ld 21 true) 12 13,
 jE 4, jW 21 4 13] (jS [jF 15 4 14, iU L1 14 15, iU .lenS 15 16, jK B4 16 30 17,
 iM 18 17, jN 19 4 19 18, jB L1 19 20 18, jB .lenS 20 21 18, iG B4 [.t 21, cI 250] 22 18 false, jP 18 22 23, iM 24 23, jN 16 4 25 24,
 jB L1 25 26 24, jB .len 26 27 24, iG B4 [.t 27, cI 10] 28 24 false, jP 24 28 29, iM 30 29, jN 17 4 31 30, jB L1 31 32 30, jB .len 32 33 30,
 iG B4 [.t 33, cI 10] 34 30 false, jP 30 34 35] (jI 35 (jS [iJ .mv [.c zF] 2] .ret))))) (.ops [jK B2 10 1 36, iM 10 36])))))))
 (jS [iJ .mv [.c zT] 2] .ret))))
theorem fn5 : A5 Tryz.prog 5 = some (37, [.t 2], ir5) := by kernel_rfl
def ir6 : C := (jS [iU .box 0 1, iJ .mv [.c zN] 2, jC 0 3] (.seq (jS [iU (.ld 76 true) 1 11, iU (.call 7) 11 12, iU U1 12 13] (jI 13 (jS [iJ .mv [.c zN] 2,
 jC 7 3] .ret))) (.seq (.any [23, 27, 28] [(jF 0 1 14, 0, [23, 27, 28]), (iU L1 14 15, 1, [23, 27, 28]), (iU (.cvI .u8) 15 16, 0, [23, 27, 28]),
 (jF 1 1 17, 0, [23, 27, 28]), (iU L1 17 18, 1, [23, 27, 28]), (iU (.cvI .u8) 18 19, 0, [23, 27, 28]), (jF 2 1 20, 0, [23, 27, 28]), (iU L1 20 21, 1, [23, 27, 28]),
 (iU (.cvI .u8) 21 22, 0, [23, 27, 28]), (iJ (.bsl 1) [.t 16, .t 19, .t 22] 23, 1, [23, 27, 28]), (jF 3 1 24, 0, [23, 27, 28]), (iU L8 24 25, 1, [23, 27, 28]),
 (iJ (.bldV 8 1) [.c zU, .c zU, .c zU, .c zU, .c zU, .c zU, .c zU, .c zU] 26, 0, [23, 27, 28]), (iD (.call 18) 25 26 27, 1, [23, 27, 28]), (iD (.bsl 1) 23 27 28, 3, [28]), (iM 4 28, 0, [])])
 (.seq (jS [jF 11 1 29, iU (.ld 64 true) 29 30, jC 0 31] (.block 0 (.loop (jS [jK B3 31 8 32] (.seq (.ite (.t 32) .skip (.exit 0))
 (.seq (.block 1 (jS [iD (.ixA 8 8 true) 30 31 33, iJ (.new zV) [] 6, jW 8 6 33] (.ops [iM 34 4, iU L8 6 35, jF 3 1 36, iU L8 36 37, iD (.call 18) 35 37 38,
 iU (.bsl 1) 38 39, iD (.app 1 24) 34 39 40, iM 4 40]))) (.ops [jK B2 31 1 41, iM 31 41]))))))) (.seq (jS [jF 75 1 42, iU L1 42 43, iU .len 43 44, jC 0 45]
 (.block 2 (.loop (jS [iD B3 45 44 46] (.seq (.ite (.t 46) .skip (.exit 2)) (.seq (.block 3 (jS [iD (.iaS 21) 43 45 47, iU (.ld 21 true) 47 48,
 jE 8, jW 21 8 48] (jS [iU (.ld 21 true) 8 50, iU (.call 19) 50 51, iM 49 51, iU (.ext 0) 49 52,
 iU (.ext 1) 49 53, iM 9 52, iM 10 53] (.seq (jS [iM 54 10, jK B6 54 0 55] (jI 55 (jS [iM 56 10, iJ .mv [.c zN] 2, iM 3 56] .ret))) (.ops [iM 57 4, iM 58 9,
 iU (.bsl 1) 58 59, iD (.app 1 24) 57 59 60, iM 4 60]))))) (.ops [jK B2 45 1 61, iM 45 61]))))))) (jS [iM 62 4, iU (.call 20) 62 63, iU (.ext 0) 63 64, iU (.ext 1) 63 65, iM 2 64,
 iM 3 65] .ret))))))
theorem fn6 : A5 Tryz.prog 6 = some (66, [.t 2, .t 3], ir6) := by kernel_rfl
def ir7 : C := (jS [iU .box 0 1, iJ .mv [.c zF] 2] (jS [iJ .mv [.c (.fn (.func 21) [])] 3] (.seq (jS [jF 0 1 4, iU L1 4 5, jK B6 5 1 6, iM 7 6,
 jL 0 1 8 7, jA L1 8 9 7, iG B6 [.t 9, cI 2] 10 7 true, jQ 7 10 11, iM 12 11, jB .mv 3 13 12, jN 1 1 14 12, jB L1 14 15 12,
 iG .yv [.t 13, .t 15] 16 12 false, jB U1 16 17 12, jP 12 17 18, iM 19 18, jB .mv 3 20 19, jN 2 1 21 19, jB L1 21 22 19,
 iG .yv [.t 20, .t 22] 23 19 false, jB U1 23 24 19, jP 19 24 25, iM 26 25, jN 1 1 27 26, jB L1 27 28 26, jN 2 1 29 26, jB L1 29 30 26,
 iG B1 [.t 28, .t 30] 31 26 false, jP 26 31 32, iM 33 32, jN 75 1 34 33, jB L1 34 35 33, jB .len 35 36 33, iG B4 [.t 36, cI 8] 37 33 false,
 jP 33 37 38, iM 39 38, jN 0 1 40 39, jB L1 40 41 39, iG B1 [.t 41, cI 1] 42 39 false, jB .mv 42 43 39, jL 75 1 44 43, jA L1 44 45 43,
 jA .len 45 46 43, iG B4 [.t 46, cI 0] 47 43 true, iG .pick [.t 43, .t 47, .c zF] 48 39 false, jP 39 48 49] (jI 49 (jS [iJ .mv [.c zF] 2] .ret)))
 (jS [jF 75 1 50, iU L1 50 51, iJ (.call 22) [.t 51, .c (.fn (.func 23) [])] 52, iU U1 52 53, iM 2 53] .ret))))
theorem fn7 : A5 Tryz.prog 7 = some (54, [.t 2], ir7) := by kernel_rfl
def ir8 : C := (jS [iU .box 0 1, iJ .mv [.c zF] 2] (.seq (jS [jF 0 1 4, iU L1 4 5, jK B3 5 1 6, iM 7 6, jN 0 1 8 7, jB L1 8 9 7,
 iG B4 [.t 9, cI 2] 10 7 false, jP 7 10 11, iM 12 11, jN 1 1 13 12, jB L1 13 14 12, iG B3 [.t 14, cI 1] 15 12 false, jP 12 15 16,
 iM 17 16, jN 1 1 18 17, jB L1 18 19 17, iG B4 [.t 19, cI 8] 20 17 false, jP 17 20 21, iM 22 21, jN 2 1 23 22, jB L1 23 24 22,
 iG B3 [.t 24, cI 1] 25 22 false, jP 22 25 26, iM 27 26, jN 2 1 28 27, jB L1 28 29 27, iG B4 [.t 29, cI 8] 30 27 false, jP 27 30 31,
 iM 32 31, jN 1 1 33 32, jB L1 33 34 32, jN 2 1 35 32, jB L1 35 36 32, iG B1 [.t 34, .t 36] 37 32 false, jP 32 37 38, iM 39 38,
 jN 75 1 40 39, jB L1 40 41 39, jB .len 41 42 39, iG B4 [.t 42, cI 8] 43 39 false, jP 39 43 44, iM 45 44, jN 0 1 46 45, jB L1 46 47 45,
 iG B1 [.t 47, cI 1] 48 45 false, jB .mv 48 49 45, jL 75 1 50 49, jA L1 50 51 49, jA .len 51 52 49, iG B4 [.t 52, cI 0] 53 49 true,
 iG .pick [.t 49, .t 53, .c zF] 54 45 false, jP 45 54 55] (jI 55 (jS [iJ .mv [.c zF] 2] .ret))) (.seq (jS [jC 0 3]
 (.block 0 (.loop (.seq (jS [iM 56 3, jF 75 1 57, iU L1 57 58, iU .len 58 59, iD B3 56 59 60] (.ite (.t 60) .skip (.exit 0))) (.seq (.block 1 (jS [jF 75 1 63, iU L1 63 64,
 iM 65 3, iD (.iaS 21) 64 65 66, iU (.ld 21 true) 66 67, iU (.call 25) 67 68, iU U1 68 69] (jI 69 (jS [iJ .mv [.c zF] 2] .ret)))) (.ops [iM 61 3, jK B2 61 1 62,
 iM 3 62])))))) (jS [iJ .mv [.c zT] 2] .ret))))
theorem fn8 : A5 Tryz.prog 8 = some (70, [.t 2], ir8) := by kernel_rfl
def ir9 : C := (jS [iJ (.new (.agg [zI, zI, zI, zV, .vec 64 (List.replicate 64 (.i .u32 0)), zN])) [] 2, jC 0 3] (jS [iM 15 0, jK (.call 26) 15 18 16, iM 14 16,
 iU (.ext 0) 14 17, iU (.ext 1) 14 18, iM 4 17, iM 5 18] (.seq (jS [iM 19 5, jK B6 19 0 20]
 (jI 20 (jS [iJ (.bld [1, 1, 1, 8, 64, 1]) [cI 0, cI 0, cI 0, .c zV, .c (.vec 64 (List.replicate 64 (.i .u32 0))), .c zN] 21, iM 22 5, jW 76 2 21, iM 3 22] .ret))) (.seq (jS [iM 23 4, iU .len 23 24, jK B3 24 10 25, iM 26 25, jB .mv 4 27 26, iG (.iaS 1) [.t 27, cI 0] 28 26 false, jB L1 28 29 26, jB .len 29 30 26,
 iG B6 [.t 30, cI 3] 31 26 false, jP 26 31 32]
 (jI 32 (jS [iJ (.bld [1, 1, 1, 8, 64, 1]) [cI 0, cI 0, cI 0, .c zV, .c (.vec 64 (List.replicate 64 (.i .u32 0))), .c zN] 33, jW 76 2 33, jC 7 3] .ret)))
 (.seq (.any [6] [(iM 34 4, 0, [6]), (jK (.iaS 1) 34 0 35, 1, [6]), (iU L1 35 36, 1, [6]), (jK (.iaS 1) 36 0 37, 1, [6]), (iU L1 37 38, 1, [6]), (iU (.cvI .i64) 38 39, 0, [6]),
 (iM 40 4, 0, [6]), (jK (.iaS 1) 40 0 41, 1, [6]), (iU L1 41 42, 1, [6]), (jK (.iaS 1) 42 1 43, 1, [6]), (iU L1 43 44, 1, [6]), (iU (.cvI .i64) 44 45, 0, [6]), (iM 46 4, 0, [6]),
 (jK (.iaS 1) 46 0 47, 1, [6]), (iU L1 47 48, 1, [6]), (jK (.iaS 1) 48 2 49, 1, [6]), (iU L1 49 50, 1, [6]), (iU (.cvI .i64) 50 51, 0, [6]),
 (iJ (.bld [1, 1, 1, 8, 64, 1]) [.t 39, .t 45, .t 51, .c zV, .c (.vec 64 (List.replicate 64 (.i .u32 0))), .c zN] 52, 0, [6]),
 (iJ (.new (.agg [zI, zI, zI, zV, .vec 64 (List.replicate 64 (.i .u32 0)), zN])) [] 6, 1, [6]), (jW 76 6 52, 2, [])]) (.seq (jS [iM 54 4, jK (.iaS 1) 54 1 55,
 iU L1 55 56, iJ (.bldV 8 1) [.c zU, .c zU, .c zU, .c zU, .c zU, .c zU, .c zU, .c zU] 57, iD (.call 27) 56 57 58, iM 53 58, iU (.ext 0) 53 59, iU (.ext 1) 53 60, jF 3 6 61,
 jW 8 61 59, iM 5 60] (jS [iM 62 5, jK B6 62 0 63]
 (jI 63 (jS [iJ (.bld [1, 1, 1, 8, 64, 1]) [cI 0, cI 0, cI 0, .c zV, .c (.vec 64 (List.replicate 64 (.i .u32 0))), .c zN] 64, jW 76 2 64, jC 7 3] .ret)))) (.seq (jS [jC 0 65] (.block 0 (.loop (jS [jK B3 65 8 66] (.seq (.ite (.t 66) .skip (.exit 0)) (.seq (.block 1 (jS [iM 67 65, iM 7 67]
 (.seq (.any [77] [(iM 69 7, 0, [77]), (iM 70 4, 0, [77]), (iM 71 7, 0, [77]), (iJ B2 [cI 2, .t 71] 72, 0, [77]), (iD (.iaS 1) 70 72 73, 1, [77]), (iU L1 73 74, 1, [77]), (jF 3 6 75, 0, [77]),
 (iU L8 75 76, 1, [77]), (iD (.call 27) 74 76 77, 2, [77]), (iM 68 77, 0, []), (iU (.ext 0) 68 78, 0, [77]), (iU (.ext 1) 68 79, 0, [77]), (jF 11 6 80, 0, [77]), (iD (.iaA 8 8) 80 69 81, 0, []),
 (jW 8 81 78, 2, []), (iM 5 79, 0, [])]) (jS [iM 82 5, jK B6 82 0 83]
 (jI 83 (jS [iJ (.bld [1, 1, 1, 8, 64, 1]) [cI 0, cI 0, cI 0, .c zV, .c (.vec 64 (List.replicate 64 (.i .u32 0))), .c zN] 84, jW 76 2 84, jC 7 3] .ret)))))) (.ops [jK B2 65 1 85, iM 65 85]))))))) (.seq (jS [iM 86 4, jK (.slc 1 true false false) 86 10 87, iU .len 87 88, jC 0 89]
 (.block 2 (.loop (jS [iD B3 89 88 90] (.seq (.ite (.t 90) .skip (.exit 2)) (.seq (.block 3 (jS [iD (.iaS 1) 87 89 91, iU L1 91 92, iM 9 92] (jS [iM 94 9,
 iU (.call 28) 94 95, iM 93 95, iU (.ext 0) 93 96, iU (.ext 1) 93 97, jE 10, jW 21 10 96, iM 11 97]
 (.seq (jS [iM 98 11, jK B6 98 0 99] (jI 99 (jS [iJ (.bld [1, 1, 1, 8, 64, 1]) [cI 0, cI 0, cI 0, .c zV, .c (.vec 64 (List.replicate 64 (.i .u32 0))), .c zN] 100,
 jW 76 2 100, jC 7 3] .ret))) (.ops [jF 75 6 101, iU L1 101 102, iU (.ld 21 true) 10 103, iU (.bsl 21) 103 104, iD (.app 21 184) 102 104 105, jF 75 6 106,
 jW 1 106 105]))))) (.ops [jK B2 89 1 107, iM 89 107]))))))) (.seq (jS [iU (.ld 76 true) 6 109, iU (.call 6) 109 110, iM 108 110, iU (.ext 0) 108 111, iU (.ext 1) 108 112,
 iM 12 111, iM 13 112] (jS [iM 113 13, jK B6 113 0 114, iM 115 114, jB .mv 12 116 115, jB .mv 0 117 115, iG (.call 29) [.t 116, .t 117] 118 115 false,
 jB U1 118 119 115, jP 115 119 120]
 (jI 120 (jS [iJ (.bld [1, 1, 1, 8, 64, 1]) [cI 0, cI 0, cI 0, .c zV, .c (.vec 64 (List.replicate 64 (.i .u32 0))), .c zN] 121, jW 76 2 121, jC 7 3] .ret)))) (jS [iU (.ld 76 true) 6 122, jW 76 2 122, jC 0 3] .ret))))))))))
theorem fn9 : A5 Tryz.prog 9 = some (123, [.c 2 76 true, .t 3], ir9) := by kernel_rfl
def ir10 : C := (jS [iU .box 0 1, iJ .mv [.c zS] 2] (.seq (.any [17, 22, 23] [(jF 0 1 8, 0, [17, 22, 23]), (iU L1 8 9, 1, [17, 22, 23]), (iU (.cvI .u8) 9 10, 0, [17, 22, 23]),
 (jF 1 1 11, 0, [17, 22, 23]), (iU L1 11 12, 1, [17, 22, 23]), (iU (.cvI .u8) 12 13, 0, [17, 22, 23]), (jF 2 1 14, 0, [17, 22, 23]), (iU L1 14 15, 1, [17, 22, 23]),
 (iU (.cvI .u8) 15 16, 0, [17, 22, 23]), (iJ (.bsl 1) [.t 10, .t 13, .t 16] 17, 1, [17, 22, 23]), (iU .b2s 17 18, 1, [22, 23]), (jF 3 1 19, 0, [17, 22, 23]), (iU L8 19 20, 1, [17, 22, 23]),
 (iJ (.bldV 8 1) [.c zU, .c zU, .c zU, .c zU, .c zU, .c zU, .c zU, .c zU] 21, 0, [17, 22, 23]), (iD (.call 30) 20 21 22, 1, [17, 22, 23]), (iD (.bsl 1) 18 22 23, 3, [17, 23]), (iM 3 23, 0, [])])
 (.seq (jS [jC 0 4] (.block 0 (.loop (.seq (jS [iM 24 4, jK B3 24 8 25] (.ite (.t 25) .skip (.exit 0)))
 (.seq (.block 1 (.any [35, 36, 37] [(iM 28 3, 0, [35, 36, 37]), (iM 29 4, 0, [35, 36, 37]), (jF 11 1 30, 0, [35, 36, 37]), (iD (.iaA 8 8) 30 29 31, 0, [35, 36, 37]),
 (iU L8 31 32, 1, [35, 36, 37]), (jF 3 1 33, 0, [35, 36, 37]), (iU L8 33 34, 1, [35, 36, 37]), (iD (.call 30) 32 34 35, 2, [35, 36, 37]), (iU (.bsl 1) 35 36, 1, [36, 37]),
 (iD (.app 1 16) 28 36 37, 2, [37]), (iM 3 37, 0, [])])) (.ops [iM 26 4, jK B2 26 1 27, iM 4 27])))))) (.seq (jS [jC 0 5] (.block 2 (.loop (.seq (jS [iM 38 5,
 jF 75 1 39, iU L1 39 40, iU .len 40 41, iD B3 38 41 42] (.ite (.t 42) .skip (.exit 2))) (.seq (.block 3 (.ops [iM 45 3, jF 75 1 46, iU L1 46 47, iM 48 5, iD (.iaS 21) 47 48 49,
 iU (.ld 21 true) 49 50, iU (.call 31) 50 51, iU (.bsl 1) 51 52, iD (.app 1 16) 45 52 53, iM 3 53])) (.ops [iM 43 5, jK B2 43 1 44, iM 5 44])))))) (jS [iM 55 3, iU (.call 32) 55 56,
 iM 54 56, iU (.ext 0) 54 57, iU (.ext 1) 54 58, iM 6 57, iM 7 58] (jS [iM 59 6, iM 2 59] .ret))))))
theorem fn10 : A5 Tryz.prog 10 = some (60, [.t 2], ir10) := by kernel_rfl
def ir11 : C := (jS [iU .box 0 2, iU .box 1 3, iJ .mv [.c zF] 4] (jS [jF 0 2 5, iU L1 5 6, jF 0 3 7, iU L1 7 8, iD B1 6 8 9, iM 10 9, jL 1 2 11 10,
 jA L1 11 12 10, jL 1 3 13 10, jA L1 13 14 10, iG B1 [.t 12, .t 14] 15 10 true, jQ 10 15 16, iM 17 16, jL 2 2 18 17, jA L1 18 19 17,
 jL 2 3 20 17, jA L1 20 21 17, iG B1 [.t 19, .t 21] 22 17 true, jQ 17 22 23, iM 24 23, jL 3 2 25 24, jA L8 25 26 24, jL 3 3 27 24,
 jA L8 27 28 24, iG (.eqv false [.int .u32, .int .u32, .int .u32, .int .u32, .int .u32, .int .u32, .int .u32, .int .u32]) [.t 26, .t 28] 29 24 true, jQ 24 29 30, iM 31 30,
 jL 11 2 32 31, jA (.ld 64 true) 32 33 31, jL 11 3 34 31, jA (.ld 64 true) 34 35 31,
 iG (.eqv false [.int .u32, .int .u32, .int .u32, .int .u32, .int .u32, .int .u32, .int .u32, .int .u32, .int .u32, .int .u32, .int .u32, .int .u32, .int .u32, .int .u32, .int .u32, .int .u32, .int .u32, .int .u32, .int .u32, .int .u32, .int .u32, .int .u32, .int .u32, .int .u32, .int .u32, .int .u32, .int .u32, .int .u32, .int .u32, .int .u32, .int .u32, .int .u32, .int .u32, .int .u32, .int .u32, .int .u32, .int .u32, .int .u32, .int .u32, .int .u32, .int .u32, .int .u32, .int .u32, .int .u32, .int .u32, .int .u32, .int .u32, .int .u32, .int .u32, .int .u32, .int .u32, .int .u32, .int .u32, .int .u32, .int .u32, .int .u32, .int .u32, .int .u32, .int .u32, .int .u32, .int .u32, .int .u32, .int .u32, .int .u32]) [.t 33, .t 35] 36 31 true,
 jQ 31 36 37, iM 38 37, jL 75 2 39 38, jA L1 39 40 38, jL 75 3 41 38, jA L1 41 42 38, iG (.call 33) [.t 40, .t 42] 43 38 true,
 jQ 38 43 44, iM 4 44] .ret))
theorem fn11 : A5 Tryz.prog 11 = some (45, [.t 4], ir11) := by kernel_rfl
def ir14 : C := (jS [iU .box 1 5, iU .box 3 7, iJ (.new (.agg [zI, zI, zI, zV, .vec 64 (List.replicate 64 (.i .u32 0)), zN])) [] 8, jC 0 9] (.seq (jS [jF 0 7 14,
 iU L1 14 15, jK B6 15 1 16, iM 17 16, jN 2 7 18 17, jB L1 18 19 17, jB .mv 2 20 17, iG B6 [.t 19, .t 20] 21 17 false, jP 17 21 22, iM 23 22,
 jB (.ld 76 true) 7 24 23, jB (.call 7) 24 25 23, jB U1 25 26 23, jP 23 26 27]
 (jI 27 (jS [iJ (.bld [1, 1, 1, 8, 64, 1]) [cI 0, cI 0, cI 0, .c zV, .c (.vec 64 (List.replicate 64 (.i .u32 0))), .c zN] 28, jW 76 8 28, jC 1 9] .ret)))
 (jS [iM 30 0, jF 3 7 31, iU L8 31 32, iD (.call 38) 30 32 33, iM 29 33, iU (.ext 0) 29 34, iU (.ext 1) 29 35, iM 10 34, iM 11 35] (.seq (jS [iM 36 11, jK B6 36 0 37]
 (jI 37 (jS [iJ (.bld [1, 1, 1, 8, 64, 1]) [cI 0, cI 0, cI 0, .c zV, .c (.vec 64 (List.replicate 64 (.i .u32 0))), .c zN] 38, iM 39 11, jW 76 8 38, iM 9 39] .ret))) (jS [iM 40 0, iU (.ld 64 true) 5 41, iM 42 2, jF 1 7 43, iU L1 43 44, iJ (.call 15) [.t 40, .t 41, .t 42, .t 44] 45,
 iJ (.new (.agg [zI, zI, zI, zV, .vec 64 (List.replicate 64 (.i .u32 0)), zN])) [] 12, jW 76 12 45] (jS [jF 0 12 46, iO S1 [.t 46, cI 2]] (.seq (jS [iM 47 10]
 (.block 0 (.rng (.t 47) [48] (.ops [jE 13, jW 21 13 48]) (.block 1 (.seq (jS [jF 75 12 49,
 iU L1 49 50, iU .len 50 51, jK B1 51 8 52] (jI 52 (.exit 0))) (.ops [jF 75 12 53, iU L1 53 54, iU (.ld 21 true) 13 55, iU (.bsl 21) 55 56, iD (.app 21 184) 54 56 57,
 jF 75 12 58, jW 1 58 57])))))) (jS [iU (.ld 76 true) 12 59, jW 76 8 59, jC 0 9] .ret))))))))
theorem fn14 : A5 Tryz.prog 14 = some (60, [.c 8 76 true, .t 9], ir14) := by kernel_rfl
def ir18 : C := (jS [iU .box 0 2, iU .box 1 3, iJ .mv [.c zN] 4] (jS [iJ .mv [.c (.pv (.i .u8 0))] 5, iJ .mv [.c (.pv (.i .u8 0))] 6] (jS [iJ .mv [.c zN] 7]
 (.seq (jS [iU L8 2 10, jC 0 11] (.block 0 (.loop (jS [jK B3 11 8 12] (.seq (.ite (.t 12) .skip (.exit 0)) (.seq (.block 1 (jS [iM 13 11,
 iD (.ixA 8 1 false) 10 11 14, iM 8 13, iM 9 14] (.block 2 (jS [iM 16 9, iM 17 8, iD (.iaA 8 1) 3 17 18, iU L1 18 19, iD B4 16 19 20, iM 15 20] (.ite (.t 15) (jS [iM 21 5, iM 22 8,
 iJ (.bin .shl) [.c (.pv (.i .u8 1)), .t 22] 23, iD (.bin .or) 21 23 24, iM 5 24] (.ops [iM 25 7, iM 26 9, iM 27 8, iD (.iaA 8 1) 3 27 28, iU L1 28 29, iD B5 26 29 30, iU (.call 41) 30 31,
 iD (.app 1 1) 25 31 32, iM 7 32])) (jS [iM 34 9, iM 35 8, iD (.iaA 8 1) 3 35 36, iU L1 36 37, iD B3 34 37 38, iM 33 38] (jI 33 (jS [iM 39 6, iM 40 8,
 iJ (.bin .shl) [.c (.pv (.i .u8 1)), .t 40] 41, iD (.bin .or) 39 41 42, iM 6 42] (.ops [iM 43 7, iM 44 8, iD (.iaA 8 1) 3 44 45, iU L1 45 46, iM 47 9, iD B5 46 47 48, iU (.call 41) 48 49,
 iD (.app 1 1) 43 49 50, iM 7 50]))))))))) (.ops [jK B2 11 1 51, iM 11 51]))))))) (jS [iM 52 5, iM 53 6, iD (.bsl 1) 52 53 54, iM 55 7, iD (.app 1 1) 54 55 56, iM 4 56]
 .ret)))))
theorem fn18 : A5 Tryz.prog 18 = some (57, [.t 4], ir18) := by kernel_rfl
def ir19 : C := (jS [iU .box 0 1, iJ .mv [.c zN] 2, jC 0 3] (.seq (jS [iU (.ld 21 true) 1 4, iU (.call 24) 4 5, iU U1 5 6] (jI 6 (jS [iJ .mv [.c zN] 2,
 jC 7 3] .ret))) (.seq (.any [11, 16, 20, 24, 27, 30, 33, 36, 39, 43, 46, 50, 51, 52] [(jF 0 1 7, 0, [11, 16, 20, 24, 27, 30, 33, 36, 39, 43, 46, 50, 51, 52]),
 (jF 0 7 8, 0, [11, 16, 20, 24, 27, 30, 33, 36, 39, 43, 46, 50, 51, 52]), (iU L1 8 9, 1, [11, 16, 20, 24, 27, 30, 33, 36, 39, 43, 46, 50, 51, 52]),
 (iU (.cvI .u64) 9 10, 0, [11, 16, 20, 24, 27, 30, 33, 36, 39, 43, 46, 50, 51, 52]), (iU (.call 42) 10 11, 1, [11, 16, 20, 24, 27, 30, 33, 36, 39, 43, 46, 50, 51, 52]),
 (jF 0 1 12, 0, [11, 16, 20, 24, 27, 30, 33, 36, 39, 43, 46, 50, 51, 52]), (jF 1 12 13, 0, [11, 16, 20, 24, 27, 30, 33, 36, 39, 43, 46, 50, 51, 52]),
 (iU L1 13 14, 1, [11, 16, 20, 24, 27, 30, 33, 36, 39, 43, 46, 50, 51, 52]), (iU (.cvI .u64) 14 15, 0, [11, 16, 20, 24, 27, 30, 33, 36, 39, 43, 46, 50, 51, 52]),
 (iU (.call 42) 15 16, 1, [16, 20, 24, 27, 30, 33, 36, 39, 43, 46, 50, 51, 52]), (jF 2 1 17, 0, [11, 16, 20, 24, 27, 30, 33, 36, 39, 43, 46, 50, 51, 52]),
 (iU L8 17 18, 1, [11, 16, 20, 24, 27, 30, 33, 36, 39, 43, 46, 50, 51, 52]),
 (iJ (.bldV 8 1) [.c zU, .c zU, .c zU, .c zU, .c zU, .c zU, .c zU, .c zU] 19, 0, [11, 16, 20, 24, 27, 30, 33, 36, 39, 43, 46, 50, 51, 52]),
 (iD (.call 18) 18 19 20, 1, [11, 20, 24, 27, 30, 33, 36, 39, 43, 46, 50, 51, 52]), (jF 10 1 21, 0, [11, 16, 20, 24, 27, 30, 33, 36, 39, 43, 46, 50, 51, 52]),
 (iU L1 21 22, 1, [11, 16, 20, 24, 27, 30, 33, 36, 39, 43, 46, 50, 51, 52]), (iU (.cvI .u64) 22 23, 0, [11, 16, 20, 24, 27, 30, 33, 36, 39, 43, 46, 50, 51, 52]),
 (iU (.call 42) 23 24, 1, [11, 16, 24, 27, 30, 33, 36, 39, 43, 46, 50, 51, 52]), (jF 11 1 25, 0, [11, 16, 20, 24, 27, 30, 33, 36, 39, 43, 46, 50, 51, 52]),
 (iU L2 25 26, 1, [11, 16, 20, 24, 27, 30, 33, 36, 39, 43, 46, 50, 51, 52]), (iU (.call 43) 26 27, 1, [11, 16, 20, 27, 30, 33, 36, 39, 43, 46, 50, 51, 52]),
 (jF 13 1 28, 0, [11, 16, 20, 24, 27, 30, 33, 36, 39, 43, 46, 50, 51, 52]), (iU L2 28 29, 1, [11, 16, 20, 24, 27, 30, 33, 36, 39, 43, 46, 50, 51, 52]),
 (iU (.call 43) 29 30, 1, [11, 16, 20, 24, 30, 33, 36, 39, 43, 46, 50, 51, 52]), (jF 15 1 31, 0, [11, 16, 20, 24, 27, 30, 33, 36, 39, 43, 46, 50, 51, 52]),
 (iU L1 31 32, 1, [11, 16, 20, 24, 27, 30, 33, 36, 39, 43, 46, 50, 51, 52]), (iU .s2b 32 33, 1, [11, 16, 20, 24, 27, 30, 33, 36, 39, 43, 46, 50, 51, 52]),
 (jF 16 1 34, 0, [11, 16, 20, 24, 27, 30, 33, 36, 39, 43, 46, 50, 51, 52]), (iU L1 34 35, 1, [11, 16, 20, 24, 27, 30, 33, 36, 39, 43, 46, 50, 51, 52]),
 (iU (.call 44) 35 36, 1, [11, 16, 20, 24, 27, 33, 36, 39, 43, 46, 50, 51, 52]), (jF 17 1 37, 0, [11, 16, 20, 24, 27, 30, 33, 36, 39, 43, 46, 50, 51, 52]),
 (iU L1 37 38, 1, [11, 16, 20, 24, 27, 30, 33, 36, 39, 43, 46, 50, 51, 52]), (iU (.call 44) 38 39, 1, [11, 16, 20, 24, 27, 30, 33, 39, 43, 46, 50, 51, 52]),
 (jF 18 1 40, 0, [11, 16, 20, 24, 27, 30, 33, 36, 39, 43, 46, 50, 51, 52]), (iU L1 40 41, 1, [11, 16, 20, 24, 27, 30, 33, 36, 39, 43, 46, 50, 51, 52]),
 (iU (.cvI .u64) 41 42, 0, [11, 16, 20, 24, 27, 30, 33, 36, 39, 43, 46, 50, 51, 52]), (iU (.call 42) 42 43, 1, [11, 16, 20, 24, 27, 30, 33, 36, 43, 46, 50, 51, 52]),
 (jF 19 1 44, 0, [11, 16, 20, 24, 27, 30, 33, 36, 39, 43, 46, 50, 51, 52]), (iU L1 44 45, 1, [11, 16, 20, 24, 27, 30, 33, 36, 39, 43, 46, 50, 51, 52]),
 (iU .s2b 45 46, 1, [11, 16, 20, 24, 27, 30, 33, 36, 39, 43, 46, 50, 51, 52]), (jF 20 1 47, 0, [11, 16, 20, 24, 27, 30, 33, 36, 39, 43, 46, 50, 51, 52]),
 (iU L1 47 48, 1, [11, 16, 20, 24, 27, 30, 33, 36, 39, 43, 46, 50, 51, 52]), (iU (.cvI .u64) 48 49, 0, [11, 16, 20, 24, 27, 30, 33, 36, 39, 43, 46, 50, 51, 52]),
 (iU (.call 42) 49 50, 1, [11, 16, 20, 24, 27, 30, 33, 36, 39, 46, 50, 51, 52]), (iJ (.bsl 1) [.t 11, .t 16, .t 20, .t 24, .t 27, .t 30, .t 33, .t 36, .t 39, .t 43, .t 46, .t 50] 51, 3, [51, 52]),
 (iU (.call 20) 51 52, 3, [11, 16, 20, 24, 27, 30, 33, 36, 39, 43, 46, 52]), (iU (.ext 0) 52 53, 0, [11, 16, 20, 24, 27, 30, 33, 36, 39, 43, 46, 50, 51]),
 (iU (.ext 1) 52 54, 0, [11, 16, 20, 24, 27, 30, 33, 36, 39, 43, 46, 50, 51]), (iM 2 53, 0, []), (iM 3 54, 0, [])]) .ret)))
theorem fn19 : A5 Tryz.prog 19 = some (55, [.t 2, .t 3], ir19) := by kernel_rfl
def ir20 : C := (jS [iJ .mv [.c zN] 2, jC 0 3] (jS [iJ (.bsl 1) [] 8, iM 4 8] (.seq (jS [iM 9 0, iU .len 9 10, jC 0 11]
 (.block 0 (.loop (jS [iD B3 11 10 12] (.seq (.ite (.t 12) .skip (.exit 0)) (.seq (.block 1 (jS [iD (.iaS 1) 9 11 13, iU L1 13 14, iM 6 14] (.seq (jS [iM 15 6, iU .len 15 16,
 iM 7 16] (.block 2 (jS [iM 26 7, jK B4 26 65535 27, iM 25 27] (.ite (.t 25) (jS [iJ .mv [.c zN] 2, jC 4 3] .ret) (jS [iM 29 7, jK B3 29 255 30,
 iM 28 30] (.ite (.t 28) (.ops [iM 31 4, iM 32 7, iU (.cvI .u8) 32 33, iU (.bsl 1) 33 34, iD (.app 1 1) 31 34 35, iM 4 35]) (.ops [iM 17 4, iM 18 7, iJ (.bin .shr) [.t 18, .c (.pv (.i .u64 8))] 19,
 iU (.cvI .u8) 19 20, iM 21 7, iU (.cvI .u8) 21 22, iJ (.bsl 1) [.c (.pv (.i .u8 255)), .t 20, .t 22] 23, iD (.app 1 1) 17 23 24, iM 4 24]))))))) (.ops [iM 36 4, iM 37 6, iD (.app 1 1) 36 37 38,
 iM 4 38])))) (.ops [jK B2 11 1 39, iM 11 39]))))))) (jS [iM 40 4, iM 2 40, jC 0 3] .ret))))
theorem fn20 : A5 Tryz.prog 20 = some (41, [.t 2, .t 3], ir20) := by kernel_rfl
def ir21 : C := (jS [iJ .mv [.c zF] 2] (jS [iM 3 0, jK B8 3 1 4, iM 5 4, jA .mv 0 6 5, iG B7 [.t 6, cI 8] 7 5 true, jQ 5 7 8, iM 2 8] .ret))
theorem fn21 : A5 Tryz.prog 21 = some (9, [.t 2], ir21) := by kernel_rfl
def ir22 : C := (jS [iJ .mv [.c zF] 4] (jS [iM 5 0, iM 6 1, iD (.call 45) 5 6 7, jK B8 7 0 8, iM 4 8] .ret))
theorem fn22 : A5 Tryz.prog 22 = some (9, [.t 4], ir22) := by kernel_rfl
def ir23 : C := (jS [iU .box 0 1, iJ .mv [.c zF] 2] (jS [iU (.ld 21 true) 1 3, iU (.call 24) 3 4, iU U1 4 5, iM 2 5] .ret))
theorem fn23 : A5 Tryz.prog 23 = some (6, [.t 2], ir23) := by kernel_rfl
def ir24 : C := (jS [iU .box 0 1, iJ .mv [.c zF] 2] (.seq (.seq (.any [] [(jF 0 1 7, 0, []), (jF 0 7 8, 0, []), (iU L1 8 9, 1, []), (jK B3 9 1 10, 0, []),
 (iM 11 10, 0, []), (jN 0 1 12 11, 0, []), (jN 0 12 13 11, 0, []), (jB L1 13 14 11, 1, []), (iG B4 [.t 14, cI 8] 15 11 false, 0, []),
 (jP 11 15 16, 0, []), (iM 17 16, 0, []), (jN 0 1 18 17, 0, []), (jN 1 18 19 17, 0, []), (jB L1 19 20 17, 1, []),
 (iG B3 [.t 20, .c (.pv (.i .u32 1))] 21 17 false, 0, []), (jP 17 21 22, 0, []), (iM 23 22, 0, []), (jN 0 1 24 23, 0, []), (jN 1 24 25 23, 0, []),
 (jB L1 25 26 23, 1, []), (iG B4 [.t 26, .c (.pv (.i .u32 1048576))] 27 23 false, 0, []), (jP 23 27 28, 0, []), (iM 29 28, 0, []), (jN 0 1 30 29, 0, []),
 (jN 0 30 31 29, 0, []), (jB L1 31 32 29, 1, []), (iG B5 [.t 32, cI 1] 33 29 false, 0, []), (jN 2 1 34 29, 0, []), (iG (.iaA 8 1) [.t 34, .t 33] 35 29 false, 0, []),
 (jB L1 35 36 29, 1, []), (jN 0 1 37 29, 0, []), (jN 1 37 38 29, 0, []), (jB L1 38 39 29, 1, []), (iG B5 [.t 39, .c (.pv (.i .u32 1))] 40 29 false, 0, []),
 (iG B6 [.t 36, .t 40] 41 29 false, 0, []), (jP 29 41 42, 0, []), (iM 43 42, 0, []), (jN 10 1 44 43, 0, []), (jB L1 44 45 43, 1, []),
 (iG B3 [.t 45, cI 1] 46 43 false, 0, []), (jP 43 46 47, 0, []), (iM 48 47, 0, []), (jN 10 1 49 48, 0, []), (jB L1 49 50 48, 1, []),
 (iG B4 [.t 50, cI 9] 51 48 false, 0, []), (jP 48 51 52, 0, [])]) (jI 52 (jS [iJ .mv [.c zF] 2] .ret))) (.seq (jS [jF 2 1 53, iU L8 53 54,
 jC 0 55] (.block 0 (.loop (jS [jK B3 55 8 56] (.seq (.ite (.t 56) .skip (.exit 0)) (.seq (.block 1 (jS [iD (.ixA 8 1 false) 54 55 57, iM 4 57]
 (jS [iM 58 4, iJ B4 [.t 58, .c (.pv (.i .u32 1048576))] 59] (jI 59 (jS [iJ .mv [.c zF] 2] .ret))))) (.ops [jK B2 55 1 60, iM 55 60])))))))
 (jS [iU (.ld 21 true) 1 61, iU (.call 46) 61 62, jE 5, jW 21 5 62]
 (.seq (jS [jF 11 5 63, iU L2 63 64, iJ (.bld [1, 1]) [cI 0, .c zU] 65, iD (.eqv true [.int .i64, .int .u32]) 64 65 66, iM 67 66, jN 13 5 68 67, jB L2 68 69 67,
 iG (.bld [1, 1]) [cI 0, .c zU] 70 67 false, iG (.eqv true [.int .i64, .int .u32]) [.t 69, .t 70] 71 67 false, jP 67 71 72, iM 73 72, jN 15 5 74 73,
 jB L1 74 75 73, iG B6 [.t 75, .c zS] 76 73 false, jP 73 76 77, iM 78 77, jN 16 5 79 78, jB L1 79 80 78, jB .len 80 81 78,
 iG B4 [.t 81, cI 0] 82 78 false, jP 78 82 83, iM 84 83, jN 17 5 85 84, jB L1 85 86 84, jB .len 86 87 84, iG B4 [.t 87, cI 0] 88 84 false,
 jP 84 88 89, iM 90 89, jN 18 5 91 90, jB L1 91 92 90, iG B6 [.t 92, cI 0] 93 90 false, jP 90 93 94, iM 95 94, jN 19 5 96 95,
 jB L1 96 97 95, iG B6 [.t 97, .c zS] 98 95 false, jP 95 98 99, iM 100 99, jN 20 5 101 100, jB L1 101 102 100, iG B6 [.t 102, cI 0] 103 100 false,
 jP 100 103 104] (jI 104 (jS [iJ .mv [.c zF] 2] .ret))) (jS [iJ .mv [.c (.fn (.func 47) [])] 6] (.seq (jS [jF 10 1 105,
 iU L1 105 106] (.block 2 (.seq (jS [jK B1 106 1 108, iM 107 108] (.ite (.t 107) .skip (.ops [jK B1 106 2 109, iM 107 109])))
 (.ite (.t 107) (jS [iU (.ld 21 true) 1 110, iU (.call 48) 110 111, iM 112 111, jL 15 1 113 112, jA L1 113 114 112, jA (.call 49) 114 115 112,
 jQ 112 115 116, iM 2 116] .ret) (jS [jK B1 106 3 118, iM 117 118] (.ite (.t 117) (jS [jF 2 1 119, iU L8 119 120, jF 11 1 121,
 iU L2 121 122, iD (.call 50) 120 122 123, iM 124 123, jL 17 1 125 124, jA L1 125 126 124, jL 2 1 127 124, jA L8 127 128 124,
 iG (.call 51) [.t 126, cI 1, .t 128] 129 124 true, jQ 124 129 130, iM 131 130, jA .mv 6 132 131, jL 18 1 133 131, jA L1 133 134 131,
 iG .yv [.t 132, .t 134] 135 131 true, jQ 131 135 136, iM 137 136, jL 19 1 138 137, jA L1 138 139 137, jA .lenS 139 140 137,
 iG B8 [.t 140, cI 1] 141 137 true, jQ 137 141 142, iM 143 142, jA .mv 6 144 143, jL 19 1 145 143, jA L1 145 146 143, jA .lenS 146 147 143,
 iG .yv [.t 144, .t 147] 148 143 true, jQ 143 148 149, iM 150 149, jA .mv 6 151 150, jL 18 1 152 150, jA L1 152 153 150, jL 19 1 154 150,
 jA L1 154 155 150, jA .lenS 155 156 150, iG B2 [.t 153, .t 156] 157 150 true, iG .yv [.t 151, .t 157] 158 150 true, jQ 150 158 159, iM 2 159] .ret)
 (jS [jK B1 106 4 161, iM 160 161] (.ite (.t 160) (jS [jF 2 1 162, iU L8 162 163, jF 11 1 164, iU L2 164 165, iD (.call 50) 163 165 166, iM 167 166,
 jL 17 1 168 167, jA L1 168 169 167, jL 2 1 170 167, jA L8 170 171 167, iG (.call 51) [.t 169, cI 1, .t 171] 172 167 true, jQ 167 172 173,
 iM 174 173, jA .mv 6 175 174, jL 18 1 176 174, jA L1 176 177 174, iG .yv [.t 175, .t 177] 178 174 true, jQ 174 178 179, iM 2 179] .ret)
 (jS [jK B1 106 5 181, iM 180 181] (.ite (.t 180) (jS [jF 2 1 182, iU L8 182 183, jF 11 1 184, iU L2 184 185, iD (.call 50) 183 185 186, iM 187 186,
 jL 17 1 188 187, jA L1 188 189 187, jL 2 1 190 187, jA L8 190 191 187, iG (.call 51) [.t 189, cI 8, .t 191] 192 187 true, jQ 187 192 193,
 iM 194 193, jL 17 1 195 194, jA L1 195 196 194, jA .len 196 197 194, iG B8 [.t 197, cI 2] 198 194 true, jQ 194 198 199, iM 200 199, jA .mv 6 201 200,
 jL 19 1 202 200, jA L1 202 203 200, jA .lenS 203 204 200, iG .yv [.t 201, .t 204] 205 200 true, jQ 200 205 206, iM 2 206] .ret)
 (jS [jK B1 106 6 208, iM 207 208] (.ite (.t 207) (jS [jF 2 1 209, iU L8 209 210, jF 11 1 211, iU L2 211 212, iD (.call 50) 210 212 213, iM 214 213,
 jL 16 1 215 214, jA L1 215 216 214, jL 2 1 217 214, jA L8 217 218 214, iG (.call 51) [.t 216, cI 8, .t 218] 219 214 true, jQ 214 219 220,
 iM 2 220] .ret) (jS [jK B1 106 7 222, iM 221 222] (.ite (.t 221) (jS [jF 2 1 223, iU L8 223 224, jF 11 1 225, iU L2 225 226, iD (.call 50) 224 226 227,
 iM 228 227, jL 16 1 229 228, jA L1 229 230 228, jL 2 1 231 228, jA L8 231 232 228, iG (.call 51) [.t 230, cI 8, .t 232] 233 228 true,
 jQ 228 233 234, iM 235 234, jA (.ld 21 true) 1 236 235, jA (.call 48) 236 237 235, jQ 235 237 238, iM 239 238, jL 15 1 240 239,
 jA L1 240 241 239, jA (.call 49) 241 242 239, jQ 239 242 243, iM 2 243] .ret) (jS [jK B1 106 8 245, iM 244 245]
 (jI 244 (jS [jF 20 1 246, iU L1 246 247, jK B8 247 1 248, iM 249 248, jL 20 1 250 249, jA L1 250 251 249, iG B7 [.t 251, cI 4] 252 249 true,
 jQ 249 252 253, iM 2 253] .ret))))))))))))))))) (jS [iJ .mv [.c zT] 2] .ret))))))))
theorem fn24 : A5 Tryz.prog 24 = some (254, [.t 2], ir24) := by kernel_rfl
def ir25 : C := (jS [iU .box 0 1, iJ .mv [.c zF] 2] (.seq (.seq (.any [37] [(jF 0 1 9, 0, [37]), (jF 0 9 10, 0, [37]), (iU L1 10 11, 1, [37]), (jK B3 11 1 12, 0, [37]),
 (iM 13 12, 0, [37]), (jN 0 1 14 13, 0, [37]), (jN 0 14 15 13, 0, [37]), (jB L1 15 16 13, 1, [37]), (iG B4 [.t 16, cI 8] 17 13 false, 0, [37]),
 (jP 13 17 18, 0, [37]), (iM 19 18, 0, [37]), (jN 0 1 20 19, 0, [37]), (jN 1 20 21 19, 0, [37]), (jB L1 21 22 19, 1, [37]),
 (iG B3 [.t 22, .c (.pv (.i .u32 1))] 23 19 false, 0, [37]), (jP 19 23 24, 0, [37]), (iM 25 24, 0, [37]), (jN 0 1 26 25, 0, [37]),
 (jN 1 26 27 25, 0, [37]), (jB L1 27 28 25, 1, [37]), (iG B4 [.t 28, .c (.pv (.i .u32 1048576))] 29 25 false, 0, [37]), (jP 25 29 30, 0, [37]),
 (iM 31 30, 0, [37]), (jN 2 1 32 31, 0, [37]), (jB L8 32 33 31, 1, [37]), (jN 0 1 34 31, 0, [37]), (jN 0 34 35 31, 0, [37]), (jB L1 35 36 31, 1, [37]),
 (iG (.call 52) [.t 33, .t 36] 37 31 false, 1, [37]), (iG B2 [.t 37, .c (.pv (.i .u32 1))] 38 31 false, 0, []), (jN 0 1 39 31, 0, [37]), (jN 1 39 40 31, 0, [37]),
 (jB L1 40 41 31, 1, [37]), (iG B6 [.t 38, .t 41] 42 31 false, 0, [37]), (jP 31 42 43, 0, [37])]) (jI 43 (jS [iJ .mv [.c zF] 2] .ret)))
 (.seq (jS [jC 0 3] (.block 0 (.loop (.seq (jS [iM 44 3, jK B3 44 8 45] (.ite (.t 45) .skip (.exit 0))) (.seq (.block 1 (jS [iM 48 3, jF 2 1 49,
 iD (.iaA 8 1) 49 48 50, iU L1 50 51, iJ B4 [.t 51, .c (.pv (.i .u32 1048576))] 52] (jI 52 (jS [iJ .mv [.c zF] 2] .ret)))) (.ops [iM 46 3, jK B2 46 1 47, iM 3 47]))))))
 (.seq (.any [57, 60, 66] [(jF 2 1 53, 0, [57, 60, 66]), (iU L8 53 54, 1, [57, 60, 66]), (jF 11 1 55, 0, [57, 60, 66]), (iU L2 55 56, 1, [57, 60, 66]),
 (iD (.call 53) 54 56 57, 1, [57, 60, 66]), (jF 13 1 58, 0, [57, 60, 66]), (iU L2 58 59, 1, [57, 60, 66]), (iU (.call 54) 59 60, 3, [60, 66]), (iM 61 60, 0, [57, 66]),
 (jN 2 1 62 61, 0, [57, 60, 66]), (jB L8 62 63 61, 1, [57, 60, 66]), (jN 13 1 64 61, 0, [57, 60, 66]), (jB L2 64 65 61, 1, [57, 60, 66]),
 (iG (.call 53) [.t 63, .t 65] 66 61 false, 3, [57, 60, 66]), (jP 61 66 67, 0, [57, 60]), (iM 4 57, 0, [60]), (iM 5 67, 0, [])])
 (.seq (.any [77, 83] [(jF 16 1 68, 0, [77, 83]), (iU L1 68 69, 1, [77, 83]), (iU .len 69 70, 1, [77, 83]), (jK B7 70 8 71, 0, [77, 83]), (iM 72 71, 0, [77, 83]),
 (jL 16 1 73 72, 0, [77, 83]), (jA L1 73 74 72, 1, [77, 83]), (jL 2 1 75 72, 0, [77, 83]), (jA L8 75 76 72, 1, [77, 83]),
 (iG (.call 55) [.t 74, .t 76] 77 72 true, 1, [77, 83]), (jQ 72 77 78, 0, [83]), (jF 17 1 79, 0, [77, 83]), (iU L1 79 80, 1, [77, 83]), (jF 2 1 81, 0, [77, 83]),
 (iU L8 81 82, 1, [77, 83]), (iD (.call 55) 80 82 83, 2, [83]), (iM 6 78, 0, []), (iM 7 83, 0, [])]) (jS [jF 18 1 84, iU L1 84 85, jK B8 85 0 86, iM 87 86,
 jL 18 1 88 87, jA L1 88 89 87, iG B7 [.t 89, cI 200] 90 87 true, jQ 87 90 91, iM 8 91] (.seq (jS [jF 10 1 92, iU L1 92 93]
 (.block 2 (.seq (jS [jK B1 93 1 95, iM 94 95] (.ite (.t 94) .skip (.ops [jK B1 93 2 96, iM 94 96]))) (.ite (.t 94) (jS [iM 97 5, iM 98 97, jL 15 1 99 98,
 jA L1 99 100 98, jA (.call 56) 100 101 98, jQ 98 101 102, iM 103 102, jA (.ld 21 true) 1 104 103,
 iG (.call 57) [.t 104, .c zF, .c zT, .c zF, .c zF, .c zF, .c zF, .c zF] 105 103 true, jQ 103 105 106, iM 2 106] .ret) (jS [jK B1 93 3 108, iM 107 108]
 (.ite (.t 107) (jS [iM 109 4, iM 110 109, jA .mv 7 111 110, jQ 110 111 112, iM 113 112, jL 17 1 114 113, jA L1 114 115 113,
 jA .len 115 116 113, iG B7 [.t 116, cI 1] 117 113 true, jQ 113 117 118, iM 119 118, jA .mv 8 120 119, jQ 119 120 121, iM 122 121,
 jL 19 1 123 122, jA L1 123 124 122, iG B6 [.t 124, .c zS] 125 122 true, jQ 122 125 126, iM 127 126, jL 19 1 128 127, jA L1 128 129 127,
 jA .lenS 129 130 127, jL 18 1 131 127, jA L1 131 132 127, iG B5 [cI 200, .t 132] 133 127 true, iG B7 [.t 130, .t 133] 134 127 true, jQ 127 134 135,
 iM 136 135, jA (.ld 21 true) 1 137 136, iG (.call 57) [.t 137, .c zT, .c zF, .c zF, .c zT, .c zT, .c zT, .c zF] 138 136 true, jQ 136 138 139, iM 2 139] .ret)
 (jS [jK B1 93 4 141, iM 140 141] (.ite (.t 140) (jS [iM 142 4, iM 143 142, jA .mv 7 144 143, jQ 143 144 145, iM 146 145,
 jL 17 1 147 146, jA L1 147 148 146, jA .len 148 149 146, iG B7 [.t 149, cI 1] 150 146 true, jQ 146 150 151, iM 152 151, jA .mv 8 153 152,
 jQ 152 153 154, iM 155 154, jA (.ld 21 true) 1 156 155, iG (.call 57) [.t 156, .c zT, .c zF, .c zF, .c zT, .c zT, .c zF, .c zF] 157 155 true,
 jQ 155 157 158, iM 2 158] .ret) (jS [jK B1 93 5 160, iM 159 160] (.ite (.t 159) (jS [iM 161 4, iM 162 161, jA .mv 7 163 162,
 jQ 162 163 164, iM 165 164, jL 17 1 166 165, jA L1 166 167 165, jA .len 167 168 165, iG B8 [.t 168, cI 2] 169 165 true,
 jQ 165 169 170, iM 171 170, jL 17 1 172 171, jA L1 172 173 171, jA .len 173 174 171, iG B7 [.t 174, cI 8] 175 171 true,
 jQ 171 175 176, iM 177 176, jL 19 1 178 177, jA L1 178 179 177, jA .lenS 179 180 177, iG B7 [.t 180, cI 200] 181 177 true,
 jQ 177 181 182, iM 183 182, jA (.ld 21 true) 1 184 183, iG (.call 57) [.t 184, .c zT, .c zF, .c zF, .c zT, .c zF, .c zT, .c zF] 185 183 true,
 jQ 183 185 186, iM 2 186] .ret) (jS [jK B1 93 6 188, iM 187 188] (.ite (.t 187) (jS [iM 189 4, iM 190 189, jA .mv 6 191 190,
 jQ 190 191 192, iM 193 192, jA (.ld 21 true) 1 194 193, iG (.call 57) [.t 194, .c zT, .c zF, .c zT, .c zF, .c zF, .c zF, .c zF] 195 193 true,
 jQ 193 195 196, iM 2 196] .ret) (jS [jK B1 93 7 198, iM 197 198] (.ite (.t 197) (jS [iM 199 4, iM 200 199, jA .mv 6 201 200,
 jQ 200 201 202, iM 203 202, jA .mv 5 204 203, jQ 203 204 205, iM 206 205, jL 15 1 207 206, jA L1 207 208 206,
 jA (.call 56) 208 209 206, jQ 206 209 210, iM 211 210, jA (.ld 21 true) 1 212 211,
 iG (.call 57) [.t 212, .c zT, .c zT, .c zT, .c zF, .c zF, .c zF, .c zF] 213 211 true, jQ 211 213 214, iM 2 214] .ret) (jS [jK B1 93 8 216, iM 215 216]
 (.ite (.t 215) (jS [jF 20 1 217, iU L1 217 218, jK B8 218 1 219, iM 220 219, jL 20 1 221 220, jA L1 221 222 220, iG B7 [.t 222, cI 4] 223 220 true,
 jQ 220 223 224, iM 225 224, jA (.ld 21 true) 1 226 225, iG (.call 57) [.t 226, .c zF, .c zF, .c zF, .c zF, .c zF, .c zF, .c zT] 227 225 true,
 jQ 225 227 228, iM 2 228] .ret) (jS [jK B1 93 9 230, iM 229 230] (jI 229 (jS [iU (.ld 21 true) 1 231,
 iJ (.call 57) [.t 231, .c zF, .c zF, .c zF, .c zF, .c zF, .c zF, .c zF] 232, iM 2 232] .ret))))))))))))))))))) (jS [iJ .mv [.c zF] 2] .ret))))))))
theorem fn25 : A5 Tryz.prog 25 = some (233, [.t 2], ir25) := by kernel_rfl
def ir26 : C := (jS [iU .box 1 3, iJ (.new zN) [] 4, iJ (.new zI) [] 5] (jS [iJ (.new zN) [] 6] (.seq (jS [iM 9 0, iU (.call 58) 9 10]
 (.block 0 (.rng (.t 10) [11, 12] (jS [iM 7 11] (.ops [iM 8 12])) (.block 1 (.seq (jS [iM 13 8, jK B6 13 0 14] (jI 14 (jS [iM 15 8, iO S1 [.t 4, .c zN],
 jW 1 5 15] .ret))) (.seq (jS [iU L1 6 16, iU .len 16 17, iU L1 3 18, iD B8 17 18 19] (jI 19 (jS [iO S1 [.t 4, .c zN], iO S1 [.t 5, cI 4]] .ret)))
 (.ops [iU L1 6 20, iM 21 7, iU (.bsl 1) 21 22, iD (.app 1 24) 20 22 23, jW 1 6 23]))))))) (jS [iU L1 6 24, jW 1 4 24, iO S1 [.t 5, cI 0]] .ret))))
theorem fn26 : A5 Tryz.prog 26 = some (25, [.c 4 1 false, .c 5 1 false], ir26) := by kernel_rfl
def ir27 : C := (jS [iU .box 1 3, iJ (.new zV) [] 4, jC 0 5] (jS [iM 13 0, iU (.call 59) 13 14, iM 12 14, iU (.ext 0) 12 15, iU (.ext 1) 12 16, iJ (.new zW) [] 6,
 jW 8 6 15, iM 7 16] (.seq (jS [iM 17 7, jK B6 17 0 18] (jI 18 (jS [iJ (.bldV 8 1) [.c zU, .c zU, .c zU, .c zU, .c zU, .c zU, .c zU, .c zU] 19,
 iM 20 7, jW 8 4 19, iM 5 20] .ret))) (jS [iJ (.new zV) [] 8] (.seq (jS [iU L8 6 21, jC 0 22] (.block 0 (.loop (jS [jK B3 22 8 23]
 (.seq (.ite (.t 23) .skip (.exit 0)) (.seq (.block 1 (jS [iM 24 22, iD (.ixA 8 1 false) 21 22 25, iM 9 24, iM 10 25] (jS [iM 26 9, iD (.iaA 8 1) 3 26 27, iU L1 27 28,
 iU (.cvI .i64) 28 29, iM 30 10, iD B2 29 30 31, iM 11 31] (.seq (jS [iM 32 11, jK B3 32 0 33, iM 34 33, jB .mv 11 35 34, iG B4 [.t 35, cI 4294967295] 36 34 false,
 jP 34 36 37] (jI 37 (jS [iJ (.bldV 8 1) [.c zU, .c zU, .c zU, .c zU, .c zU, .c zU, .c zU, .c zU] 38, jW 8 4 38, jC 7 5] .ret)))
 (.ops [iM 39 9, iM 40 11, iU (.cvI .u32) 40 41, iD (.iaA 8 1) 8 39 42, jW 1 42 41]))))) (.ops [jK B2 22 1 43, iM 22 43]))))))) (jS [iU L8 8 44, jW 8 4 44,
 jC 0 5] .ret))))))
theorem fn27 : A5 Tryz.prog 27 = some (45, [.c 4 8 true, .t 5], ir27) := by kernel_rfl
def ir28 : C := (jS [jE 2, jC 0 3] (jS [iM 13 0, jK (.call 26) 13 12 14, iM 12 14,
 iU (.ext 0) 12 15, iU (.ext 1) 12 16, iM 4 15, iM 5 16] (.seq (jS [iM 17 5, jK B6 17 0 18]
 (jI 18 (jS [iJ (.bld [2, 8, 1, 2, 2, 1, 1, 1, 1, 1, 1]) [.c (.agg [zI, zU]), .c zV, cI 0, .c (.agg [zI, zU]), .c (.agg [zI, zU]), .c zS, .c zN, .c zN, cI 0, .c zS, cI 0] 19, iM 20 5,
 jW 21 2 19, iM 3 20] .ret))) (.seq (jS [iM 21 4, iU .len 21 22, jK B6 22 12 23]
 (jI 23 (jS [iJ (.bld [2, 8, 1, 2, 2, 1, 1, 1, 1, 1, 1]) [.c (.agg [zI, zU]), .c zV, cI 0, .c (.agg [zI, zU]), .c (.agg [zI, zU]), .c zS, .c zN, .c zN, cI 0, .c zS, cI 0] 24,
 jW 21 2 24, jC 8 3] .ret))) (.seq (.any [28, 32, 36, 44, 52, 6] [(iM 25 4, 0, [28, 32, 36, 44, 52, 6]), (jK (.iaS 1) 25 3 26, 1, [28, 32, 36, 44, 52, 6]),
 (iU L1 26 27, 1, [28, 32, 36, 44, 52, 6]), (iU (.call 60) 27 28, 1, [28, 32, 36, 44, 52, 6]), (iM 29 4, 0, [28, 32, 36, 44, 52, 6]), (jK (.iaS 1) 29 4 30, 1, [28, 32, 36, 44, 52, 6]),
 (iU L1 30 31, 1, [28, 32, 36, 44, 52, 6]), (iU (.call 61) 31 32, 1, [32, 36, 44, 52, 6]), (iM 33 4, 0, [28, 32, 36, 44, 52, 6]), (jK (.iaS 1) 33 5 34, 1, [28, 32, 36, 44, 52, 6]),
 (iU L1 34 35, 1, [28, 32, 36, 44, 52, 6]), (iU (.call 61) 35 36, 1, [28, 36, 44, 52, 6]), (iM 37 4, 0, [28, 32, 36, 44, 52, 6]), (jK (.iaS 1) 37 6 38, 1, [28, 32, 36, 44, 52, 6]),
 (iU L1 38 39, 1, [28, 32, 36, 44, 52, 6]), (iU .b2s 39 40, 1, [28, 32, 36, 44, 52, 6]), (iM 41 4, 0, [28, 32, 36, 44, 52, 6]), (jK (.iaS 1) 41 9 42, 1, [28, 32, 36, 44, 52, 6]),
 (iU L1 42 43, 1, [28, 32, 36, 44, 52, 6]), (iU (.call 60) 43 44, 1, [28, 32, 44, 52, 6]), (iM 45 4, 0, [28, 32, 36, 44, 52, 6]), (jK (.iaS 1) 45 10 46, 1, [28, 32, 36, 44, 52, 6]),
 (iU L1 46 47, 1, [28, 32, 36, 44, 52, 6]), (iU .b2s 47 48, 1, [28, 32, 36, 44, 52, 6]), (iM 49 4, 0, [28, 32, 36, 44, 52, 6]), (jK (.iaS 1) 49 11 50, 1, [28, 32, 36, 44, 52, 6]),
 (iU L1 50 51, 1, [28, 32, 36, 44, 52, 6]), (iU (.call 60) 51 52, 1, [28, 32, 36, 52, 6]),
 (iJ (.bld [2, 8, 1, 2, 2, 1, 1, 1, 1, 1, 1]) [.c (.agg [zI, zU]), .c zV, .t 28, .t 32, .t 36, .t 40, .c zN, .c zN, .t 44, .t 48, .t 52] 53, 0, [6]),
 (jE 6, 1, [28, 32, 36, 44, 52, 6]), (jW 21 6 53, 2, [])]) (.seq (.any [57, 61] [(iM 54 4, 0, [57, 61]),
 (jK (.iaS 1) 54 0 55, 1, [57, 61]), (iU L1 55 56, 1, [57, 61]), (iU (.call 60) 56 57, 1, [57, 61]), (iM 58 4, 0, [57, 61]), (jK (.iaS 1) 58 1 59, 1, [57, 61]),
 (iU L1 59 60, 1, [57, 61]), (iU (.call 60) 60 61, 3, [61]), (iJ .mx [cI 0, .t 61] 62, 0, [57]), (iU (.cvI .u32) 62 63, 0, [57, 61]), (iD (.bld [1, 1]) 57 63 64, 0, [61]), (jF 0 6 65, 0, []),
 (jW 2 65 64, 2, [])]) (jS [jC 0 7, jC 0 8, jC 0 9] (jS [iM 67 4, jK (.iaS 1) 67 2 68, iU L1 68 69,
 iJ (.bldV 8 1) [.c zU, .c zU, .c zU, .c zU, .c zU, .c zU, .c zU, .c zU] 70, iD (.call 27) 69 70 71, iM 66 71, iU (.ext 0) 66 72, iU (.ext 1) 66 73, jF 2 6 74, jW 8 74 72,
 iM 7 73] (jS [iM 76 4, jK (.iaS 1) 76 7 77, iU L1 77 78, jK (.call 62) 78 8 79, iM 75 79, iU (.ext 0) 75 80, iU (.ext 1) 75 81, jF 16 6 82, jW 1 82 80,
 iM 8 81] (jS [iM 84 4, jK (.iaS 1) 84 8 85, iU L1 85 86, jK (.call 62) 86 8 87, iM 83 87, iU (.ext 0) 83 88, iU (.ext 1) 83 89, jF 17 6 90, jW 1 90 88,
 iM 9 89] (.seq (jS [iM 91 7, jK B6 91 0 92, iM 93 92, jB .mv 8 94 93, iG B6 [.t 94, cI 0] 95 93 false, jP 93 95 96, iM 97 96, jB .mv 9 98 97,
 iG B6 [.t 98, cI 0] 99 97 false, jP 97 99 100]
 (jI 100 (jS [iJ (.bld [2, 8, 1, 2, 2, 1, 1, 1, 1, 1, 1]) [.c (.agg [zI, zU]), .c zV, cI 0, .c (.agg [zI, zU]), .c (.agg [zI, zU]), .c zS, .c zN, .c zN, cI 0, .c zS, cI 0] 101,
 jW 21 2 101, jC 7 3] .ret))) (.seq (jS [iU (.ld 21 true) 6 103, iU (.call 19) 103 104, iM 102 104, iU (.ext 0) 102 105, iU (.ext 1) 102 106, iM 10 105,
 iM 11 106] (jS [iM 107 11, jK B6 107 0 108, iM 109 108, jB .mv 10 110 109, jB .mv 0 111 109, iG (.call 29) [.t 110, .t 111] 112 109 false, jB U1 112 113 109,
 jP 109 113 114]
 (jI 114 (jS [iJ (.bld [2, 8, 1, 2, 2, 1, 1, 1, 1, 1, 1]) [.c (.agg [zI, zU]), .c zV, cI 0, .c (.agg [zI, zU]), .c (.agg [zI, zU]), .c zS, .c zN, .c zN, cI 0, .c zS, cI 0] 115,
 jW 21 2 115, jC 7 3] .ret)))) (jS [iU (.ld 21 true) 6 116, jW 21 2 116, jC 0 3] .ret)))))))))))))
theorem fn28 : A5 Tryz.prog 28 = some (117, [.c 2 21 true, .t 3], ir28) := by kernel_rfl
def ir29 : C := (jS [iJ .mv [.c zF] 4] (.seq (jS [iM 6 0, iU .len 6 7, iM 8 1, iU .len 8 9, iD B6 7 9 10] (jI 10 (jS [iJ .mv [.c zF] 4] .ret)))
 (.seq (jS [iM 11 0, iU .len 11 12, jC 0 13] (.block 0 (.loop (jS [iD B3 13 12 14] (.seq (.ite (.t 14) .skip (.exit 0)) (.seq (.block 1 (jS [iM 15 13, iM 5 15]
 (.seq (.any [] [(iM 16 0, 0, []), (iM 17 5, 0, []), (iD (.iaS 1) 16 17 18, 1, []), (iU L1 18 19, 1, []), (iM 20 1, 0, []), (iM 21 5, 0, []), (iD (.iaS 1) 20 21 22, 1, []), (iU L1 22 23, 1, []),
 (iD B6 19 23 24, 0, [])]) (jI 24 (jS [iJ .mv [.c zF] 4] .ret))))) (.ops [jK B2 13 1 25, iM 13 25]))))))) (jS [iJ .mv [.c zT] 4] .ret))))
theorem fn29 : A5 Tryz.prog 29 = some (26, [.t 4], ir29) := by kernel_rfl
def ir30 : C := (jS [iU .box 0 2, iU .box 1 3, iJ .mv [.c zS] 4] (jS [iJ .mv [.c (.pv (.i .u8 0))] 5, iJ .mv [.c (.pv (.i .u8 0))] 6, iJ .mv [.c zS] 7]
 (.seq (jS [jC 0 8] (.block 0 (.loop (.seq (jS [iM 11 8, jK B3 11 8 12] (.ite (.t 12) .skip (.exit 0))) (.seq (.block 1 (.seq (.any [] [(iM 15 8, 0, []),
 (iD (.iaA 8 1) 2 15 16, 0, []), (iU L1 16 17, 1, []), (iU (.cvI .i64) 17 18, 0, []), (iM 19 8, 0, []), (iD (.iaA 8 1) 3 19 20, 0, []), (iU L1 20 21, 1, []), (iU (.cvI .i64) 21 22, 0, []),
 (iD B5 18 22 23, 0, []), (iM 9 23, 0, [])]) (.seq (jS [iM 24 9, jK B4 24 0 25] (jI 25 (.ops [iM 26 5, iM 27 8, iU (.call 63) 27 28, iD B2 26 28 29, iM 5 29])))
 (.seq (jS [iM 30 9, jK B3 30 0 31] (jI 31 (jS [iM 32 6, iM 33 8, iU (.call 63) 33 34, iD B2 32 34 35, iM 6 35] (.ops [iM 36 9, iU (.un .neg) 36 37, iM 9 37])))) (jS [iM 38 9, jK B6 38 0 39] (jI 39 (jS [iM 40 9, iU (.cvI .u64) 40 41, iU (.call 64) 41 42, iM 10 42] (.ops [iM 43 7, iM 44 10, iU .lenS 44 45,
 iU (.cvI .u8) 45 46, iU (.bsl 1) 46 47, iU .b2s 47 48, iM 49 10, iD B2 48 49 50, iD B2 43 50 51, iM 7 51])))))))) (.ops [iM 13 8, jK B2 13 1 14, iM 8 14])))))) (jS [iM 52 5,
 iM 53 6, iD (.bsl 1) 52 53 54, iU .b2s 54 55, iM 56 7, iD B2 55 56 57, iM 4 57] .ret))))
theorem fn30 : A5 Tryz.prog 30 = some (58, [.t 4], ir30) := by kernel_rfl
def ir31 : C := (jS [iU .box 0 1, iJ .mv [.c zS] 2] (.seq (.any [10, 15, 19, 23, 26, 29, 34, 37, 41, 47, 48, 49] [(jF 0 1 6, 0, [10, 15, 19, 23, 26, 29, 34, 37, 41, 47, 48, 49]),
 (jF 0 6 7, 0, [10, 15, 19, 23, 26, 29, 34, 37, 41, 47, 48, 49]), (iU L1 7 8, 1, [10, 15, 19, 23, 26, 29, 34, 37, 41, 47, 48, 49]),
 (iU (.cvI .u64) 8 9, 0, [10, 15, 19, 23, 26, 29, 34, 37, 41, 47, 48, 49]), (iU (.call 64) 9 10, 1, [10, 15, 19, 23, 26, 29, 34, 37, 41, 47, 48, 49]),
 (jF 0 1 11, 0, [10, 15, 19, 23, 26, 29, 34, 37, 41, 47, 48, 49]), (jF 1 11 12, 0, [10, 15, 19, 23, 26, 29, 34, 37, 41, 47, 48, 49]),
 (iU L1 12 13, 1, [10, 15, 19, 23, 26, 29, 34, 37, 41, 47, 48, 49]), (iU (.cvI .u64) 13 14, 0, [10, 15, 19, 23, 26, 29, 34, 37, 41, 47, 48, 49]),
 (iU (.call 64) 14 15, 1, [15, 19, 23, 26, 29, 34, 37, 41, 47, 48, 49]), (jF 2 1 16, 0, [10, 15, 19, 23, 26, 29, 34, 37, 41, 47, 48, 49]),
 (iU L8 16 17, 1, [10, 15, 19, 23, 26, 29, 34, 37, 41, 47, 48, 49]), (iJ (.bldV 8 1) [.c zU, .c zU, .c zU, .c zU, .c zU, .c zU, .c zU, .c zU] 18, 0, [10, 15, 19, 23, 26, 29, 34, 37, 41, 47, 48, 49]),
 (iD (.call 30) 17 18 19, 1, [10, 19, 23, 26, 29, 34, 37, 41, 47, 48, 49]), (jF 10 1 20, 0, [10, 15, 19, 23, 26, 29, 34, 37, 41, 47, 48, 49]),
 (iU L1 20 21, 1, [10, 15, 19, 23, 26, 29, 34, 37, 41, 47, 48, 49]), (iU (.cvI .u64) 21 22, 0, [10, 15, 19, 23, 26, 29, 34, 37, 41, 47, 48, 49]),
 (iU (.call 64) 22 23, 1, [10, 15, 23, 26, 29, 34, 37, 41, 47, 48, 49]), (jF 11 1 24, 0, [10, 15, 19, 23, 26, 29, 34, 37, 41, 47, 48, 49]),
 (iU L2 24 25, 1, [10, 15, 19, 23, 26, 29, 34, 37, 41, 47, 48, 49]), (iU (.call 65) 25 26, 1, [10, 15, 19, 26, 29, 34, 37, 41, 47, 48, 49]),
 (jF 13 1 27, 0, [10, 15, 19, 23, 26, 29, 34, 37, 41, 47, 48, 49]), (iU L2 27 28, 1, [10, 15, 19, 23, 26, 29, 34, 37, 41, 47, 48, 49]),
 (iU (.call 65) 28 29, 1, [10, 15, 19, 23, 29, 34, 37, 41, 47, 48, 49]), (jF 15 1 30, 0, [10, 15, 19, 23, 26, 29, 34, 37, 41, 47, 48, 49]),
 (iU L1 30 31, 1, [10, 15, 19, 23, 26, 29, 34, 37, 41, 47, 48, 49]), (jF 16 1 32, 0, [10, 15, 19, 23, 26, 29, 34, 37, 41, 47, 48, 49]),
 (iU L1 32 33, 1, [10, 15, 19, 23, 26, 29, 34, 37, 41, 47, 48, 49]), (iU (.call 66) 33 34, 1, [10, 15, 19, 23, 26, 34, 37, 41, 47, 48, 49]),
 (jF 17 1 35, 0, [10, 15, 19, 23, 26, 29, 34, 37, 41, 47, 48, 49]), (iU L1 35 36, 1, [10, 15, 19, 23, 26, 29, 34, 37, 41, 47, 48, 49]),
 (iU (.call 66) 36 37, 1, [10, 15, 19, 23, 26, 29, 37, 41, 47, 48, 49]), (jF 18 1 38, 0, [10, 15, 19, 23, 26, 29, 34, 37, 41, 47, 48, 49]),
 (iU L1 38 39, 1, [10, 15, 19, 23, 26, 29, 34, 37, 41, 47, 48, 49]), (iU (.cvI .u64) 39 40, 0, [10, 15, 19, 23, 26, 29, 34, 37, 41, 47, 48, 49]),
 (iU (.call 64) 40 41, 1, [10, 15, 19, 23, 26, 29, 34, 41, 47, 48, 49]), (jF 19 1 42, 0, [10, 15, 19, 23, 26, 29, 34, 37, 41, 47, 48, 49]),
 (iU L1 42 43, 1, [10, 15, 19, 23, 26, 29, 34, 37, 41, 47, 48, 49]), (jF 20 1 44, 0, [10, 15, 19, 23, 26, 29, 34, 37, 41, 47, 48, 49]),
 (iU L1 44 45, 1, [10, 15, 19, 23, 26, 29, 34, 37, 41, 47, 48, 49]), (iU (.cvI .u64) 45 46, 0, [10, 15, 19, 23, 26, 29, 34, 37, 41, 47, 48, 49]),
 (iU (.call 64) 46 47, 1, [10, 15, 19, 23, 26, 29, 34, 37, 47, 48, 49]), (iJ (.bsl 1) [.t 10, .t 15, .t 19, .t 23, .t 26, .t 29, .t 31, .t 34, .t 37, .t 41, .t 43, .t 47] 48, 3, [48, 49]),
 (iU (.call 32) 48 49, 3, [10, 15, 19, 23, 26, 29, 34, 37, 41, 49]), (iM 5 49, 0, [10, 15, 19, 23, 26, 29, 34, 37, 41, 47, 48]),
 (iU (.ext 0) 5 50, 0, [10, 15, 19, 23, 26, 29, 34, 37, 41, 47, 48, 49]), (iU (.ext 1) 5 51, 0, [10, 15, 19, 23, 26, 29, 34, 37, 41, 47, 48, 49]), (iM 3 50, 0, []), (iM 4 51, 0, [])])
 (jS [iM 52 3, iM 2 52] .ret)))
theorem fn31 : A5 Tryz.prog 31 = some (53, [.t 2], ir31) := by kernel_rfl
def ir32 : C := (jS [iJ .mv [.c zS] 2, jC 0 3] (jS [iJ .mv [.c zS] 4] (.seq (jS [jC 0 5] (.block 0 (.loop (.seq (jS [iM 8 5, iM 9 0, iU .len 9 10,
 iD B3 8 10 11] (.ite (.t 11) .skip (.exit 0))) (.seq (.block 1 (jS [iM 15 0, iM 16 5, iD (.iaS 1) 15 16 17, iU L1 17 18, iU (.call 67) 18 19, iM 14 19, iU (.ext 0) 14 20, iU (.ext 1) 14 21,
 iM 6 20, iM 7 21] (.seq (jS [iM 22 7, iU U1 22 23] (jI 23 (jS [iJ .mv [.c zS] 2, jC 4 3] .ret))) (.ops [iM 24 4, iM 25 6, iD B2 24 25 26, iM 4 26]))))
 (.ops [iM 12 5, jK B2 12 1 13, iM 5 13])))))) (jS [iM 27 4, iM 2 27, jC 0 3] .ret))))
theorem fn32 : A5 Tryz.prog 32 = some (28, [.t 2, .t 3], ir32) := by kernel_rfl
def ir33 : C := (jS [iJ .mv [.c zF] 4] (.seq (jS [iM 6 0, iU .len 6 7, iM 8 1, iU .len 8 9, iD B6 7 9 10] (jI 10 (jS [iJ .mv [.c zF] 4] .ret)))
 (.seq (jS [jC 0 5] (.block 0 (.loop (.seq (jS [iM 11 5, iM 12 0, iU .len 12 13, iD B3 11 13 14] (.ite (.t 14) .skip (.exit 0)))
 (.seq (.block 1 (.seq (.any [25] [(iM 17 0, 0, [25]), (iM 18 5, 0, [25]), (iD (.iaS 21) 17 18 19, 1, [25]), (iU (.ld 21 true) 19 20, 1, [25]), (iM 21 1, 0, [25]), (iM 22 5, 0, [25]),
 (iD (.iaS 21) 21 22 23, 1, [25]), (iU (.ld 21 true) 23 24, 1, [25]), (iD (.call 68) 20 24 25, 3, [25]), (iU U1 25 26, 0, [])]) (jI 26 (jS [iJ .mv [.c zF] 4] .ret))))
 (.ops [iM 15 5, jK B2 15 1 16, iM 5 16])))))) (jS [iJ .mv [.c zT] 4] .ret))))
theorem fn33 : A5 Tryz.prog 33 = some (27, [.t 4], ir33) := by kernel_rfl
def ir41 : C := (jS [iJ .mv [.c zN] 2] (jS [iM 4 0, iU (.cvI .u64) 4 5, iU (.call 42) 5 6, iM 3 6] (jS [iM 7 3, iU .len 7 8, iU (.cvI .u8) 8 9, iU (.bsl 1) 9 10, iM 11 3,
 iD (.app 1 1) 10 11 12, iM 2 12] .ret)))
theorem fn41 : A5 Tryz.prog 41 = some (13, [.t 2], ir41) := by kernel_rfl
def ir42 : C := (jS [iJ .mv [.c zN] 2] (jS [iJ (.bsl 1) [] 6, iM 3 6] (.seq (jS [jC 56 4] (.block 0 (.loop (.seq (jS [iM 7 4, jK B8 7 0 8]
 (.ite (.t 8) .skip (.exit 0))) (.seq (.block 1 (jS [iM 11 0, iM 12 4, iD (.bin .shr) 11 12 13, iU (.cvI .u8) 13 14, iM 5 14] (jS [iM 15 5, iJ B6 [.t 15, .c (.pv (.i .u8 0))] 16,
 iM 17 16, jB .mv 3 18 17, jB .len 18 19 17, iG B4 [.t 19, cI 0] 20 17 false, jP 17 20 21] (jI 21 (.ops [iM 22 3, iM 23 5, iU (.bsl 1) 23 24,
 iD (.app 1 1) 22 24 25, iM 3 25]))))) (.ops [iM 9 4, jK B5 9 8 10, iM 4 10])))))) (jS [iM 26 3, iM 2 26] .ret))))
theorem fn42 : A5 Tryz.prog 42 = some (27, [.t 2], ir42) := by kernel_rfl
def ir43 : C := (jS [iU .box 0 1, iJ .mv [.c zN] 2] (.seq (jS [iU L2 1 3, iJ (.bld [1, 1]) [cI 0, .c zU] 4, iD (.eqv false [.int .i64, .int .u32]) 3 4 5]
 (jI 5 (jS [iJ .mv [.c zN] 2] .ret))) (.seq (.any [9, 13, 14] [(jF 0 1 6, 0, [9, 13, 14]), (iU L1 6 7, 1, [9, 13, 14]), (iU (.cvI .u8) 7 8, 0, [9, 13, 14]),
 (iU (.bsl 1) 8 9, 1, [9, 13, 14]), (jF 1 1 10, 0, [9, 13, 14]), (iU L1 10 11, 1, [9, 13, 14]), (iU (.cvI .u64) 11 12, 0, [9, 13, 14]), (iU (.call 42) 12 13, 1, [9, 13, 14]),
 (iD (.app 1 1) 9 13 14, 2, [14]), (iM 2 14, 0, [])]) .ret)))
theorem fn43 : A5 Tryz.prog 43 = some (15, [.t 2], ir43) := by kernel_rfl
def ir44 : C := (jS [iJ .mv [.c zN] 2] (jS [iJ .mv [.c zN] 3] (.seq (jS [iM 8 0, iU .len 8 9, jC 0 10] (.block 0 (.loop (jS [iD B3 10 9 11]
 (.seq (.ite (.t 11) .skip (.exit 0)) (.seq (.block 1 (jS [iD (.iaS 2) 8 10 12, iU L2 12 13, iJ (.new (.agg [zI, zU])) [] 5, jW 2 5 13] (.ops [iM 14 3, iU L2 5 15,
 iU (.call 43) 15 16, iU (.bsl 1) 16 17, iD (.app 1 24) 14 17 18, iM 3 18]))) (.ops [jK B2 10 1 19, iM 10 19]))))))) (jS [iM 21 3, iU (.call 20) 21 22, iM 20 22, iU (.ext 0) 20 23,
 iU (.ext 1) 20 24, iM 6 23, iM 7 24] (jS [iM 25 6, iM 2 25] .ret)))))
theorem fn44 : A5 Tryz.prog 44 = some (26, [.t 2], ir44) := by kernel_rfl
def ir45 : C := (jS [jC 0 4] (.seq (jS [iM 6 0, iU .len 6 7, jC 0 8] (.block 0 (.loop (jS [iD B3 8 7 9] (.seq (.ite (.t 9) .skip (.exit 0))
 (.seq (.block 1 (jS [iM 10 8, iM 5 10] (jS [iM 11 1, iM 12 0, iM 13 5, iD (.iaS 21) 12 13 14, iU (.ld 21 true) 14 15, iD .yv 11 15 16] (jI 16 (jS [iM 17 5, iM 4 17]
 .ret))))) (.ops [jK B2 8 1 18, iM 8 18]))))))) (jS [iJ .mv [.c (.pv (.i .i64 (-1)))] 4] .ret)))
theorem fn45 : A5 Tryz.prog 45 = some (19, [.t 4], ir45) := by kernel_rfl
def ir46 : C := (jS [iU .box 0 1, jE 2] (.seq (jS [jF 10 1 3, iU L1 3 4]
 (.block 0 (.seq (jS [jK B1 4 1 6, iM 5 6] (.ite (.t 5) .skip (.ops [jK B1 4 2 7, iM 5 7]))) (.ite (.t 5) (.ops [iJ (.bld [1, 1]) [cI 0, .c zU] 8, jF 13 1 9,
 jW 2 9 8, jF 15 1 10, iO S1 [.t 10, .c zS]]) (jS [jK B1 4 3 12, iM 11 12] (.ite (.t 11) (.ops [iJ (.bld [1, 1]) [cI 0, .c zU] 13, jF 11 1 14,
 jW 2 14 13, jF 17 1 15, iO S1 [.t 15, .c zN], jF 18 1 16, iO S1 [.t 16, cI 0], jF 19 1 17, iO S1 [.t 17, .c zS]]) (jS [jK B1 4 4 19, iM 18 19]
 (.ite (.t 18) (.ops [iJ (.bld [1, 1]) [cI 0, .c zU] 20, jF 11 1 21, jW 2 21 20, jF 17 1 22, iO S1 [.t 22, .c zN], jF 18 1 23, iO S1 [.t 23, cI 0]])
 (jS [jK B1 4 5 25, iM 24 25] (.ite (.t 24) (.ops [iJ (.bld [1, 1]) [cI 0, .c zU] 26, jF 11 1 27, jW 2 27 26, jF 17 1 28, iO S1 [.t 28, .c zN],
 jF 19 1 29, iO S1 [.t 29, .c zS]]) (jS [jK B1 4 6 31, iM 30 31] (.ite (.t 30) (.ops [iJ (.bld [1, 1]) [cI 0, .c zU] 32, jF 11 1 33, jW 2 33 32,
 jF 16 1 34, iO S1 [.t 34, .c zN]]) (jS [jK B1 4 7 36, iM 35 36] (.ite (.t 35) (.ops [iJ (.bld [1, 1]) [cI 0, .c zU] 37, iJ (.bld [1, 1]) [cI 0, .c zU] 38, jF 11 1 39,
 jW 2 39 37, jF 16 1 40, iO S1 [.t 40, .c zN], jF 13 1 41, jW 2 41 38, jF 15 1 42, iO S1 [.t 42, .c zS]]) (jS [jK B1 4 8 44,
 iM 43 44] (jI 43 (.ops [jF 20 1 45, iO S1 [.t 45, cI 0]]))))))))))))))))) (jS [iU (.ld 21 true) 1 46, jW 21 2 46] .ret)))
theorem fn46 : A5 Tryz.prog 46 = some (47, [.c 2 21 true], ir46) := by kernel_rfl
def ir47 : C := (jS [iJ .mv [.c zF] 2] (jS [iM 3 0, jK B8 3 0 4, iM 5 4, jA .mv 0 6 5, iG B7 [.t 6, cI 200] 7 5 true, jQ 5 7 8, iM 2 8] .ret))
theorem fn47 : A5 Tryz.prog 47 = some (9, [.t 2], ir47) := by kernel_rfl
def ir48 : C := (jS [iU .box 0 1, iJ .mv [.c zF] 2] (jS [jF 13 1 3, iU L2 3 4, iJ (.bld [1, 1]) [cI 0, .c zU] 5, iD (.eqv false [.int .i64, .int .u32]) 4 5 6, iM 7 6,
 jN 2 1 8 7, jB L8 8 9 7, jN 13 1 10 7, jB L2 10 11 7, iG (.call 50) [.t 9, .t 11] 12 7 false, jP 7 12 13, iM 2 13] .ret))
theorem fn48 : A5 Tryz.prog 48 = some (14, [.t 2], ir48) := by kernel_rfl
def ir49 : C := (jS [iJ .mv [.c zF] 2] (.seq (jS [iM 5 0, iU .lenS 5 6, jK B3 6 1 7, iM 8 7, jB .mv 0 9 8, jB .lenS 9 10 8, iG B4 [.t 10, cI 12] 11 8 false,
 jP 8 11 12, iM 13 12, jB .mv 0 14 13, iG B1 [.t 14, .c (.pv (.s [46]))] 15 13 false, jP 13 15 16, iM 17 16, jB .mv 0 18 17,
 iG B1 [.t 18, .c (.pv (.s [46, 46]))] 19 17 false, jP 17 19 20] (jI 20 (jS [iJ .mv [.c zF] 2] .ret))) (.seq (jS [iM 21 0, iU .rgs 21 22]
 (.block 0 (.loop (jS [iU .nxs 22 23, iU (.ext 0) 23 24] (.seq (.ite (.t 24) .skip (.exit 0)) (.block 1 (jS [iU (.ext 2) 23 25, iM 4 25] (jS [iM 26 4, iU (.call 77) 26 27,
 iU U1 27 28, iM 29 28, jA .mv 4 30 29, iG B3 [.t 30, .c (.pv (.i .i32 48))] 31 29 true, jA .mv 31 32 29, jB .mv 4 33 32, iG B4 [.t 33, .c (.pv (.i .i32 57))] 34 32 false,
 iG .pick [.t 32, .c zT, .t 34] 35 29 true, jQ 29 35 36, iM 37 36, jA .mv 4 38 37, iG (.call 78) [.c (.pv (.s [46, 95, 45])), .t 38] 39 37 true, jA U1 39 40 37,
 jQ 37 40 41] (jI 41 (jS [iJ .mv [.c zF] 2] .ret)))))))))) (jS [iJ .mv [.c zT] 2] .ret))))
theorem fn49 : A5 Tryz.prog 49 = some (42, [.t 2], ir49) := by kernel_rfl
def ir50 : C := (jS [iU .box 0 2, iU .box 1 3, iJ .mv [.c zF] 4] (.seq (.any [14] [(jF 1 3 5, 0, [14]), (iU L1 5 6, 1, [14]), (iJ B8 [.t 6, .c (.pv (.i .u32 1))] 7, 0, [14]),
 (iM 8 7, 0, [14]), (jL 1 3 9 8, 0, [14]), (jA L1 9 10 8, 1, [14]), (jA L8 2 11 8, 1, [14]), (jL 0 3 12 8, 0, [14]), (jA L1 12 13 8, 1, [14]),
 (iG (.call 79) [.t 11, .t 13] 14 8 true, 1, [14]), (iG B7 [.t 10, .t 14] 15 8 true, 0, []), (jQ 8 15 16, 0, [14]), (iM 4 16, 0, [])]) .ret))
theorem fn50 : A5 Tryz.prog 50 = some (17, [.t 4], ir50) := by kernel_rfl
def ir51 : C := (jS [iU .box 2 5, iJ .mv [.c zF] 6] (.seq (jS [iM 9 0, iU .len 9 10, iM 11 1, iD B4 10 11 12] (jI 12 (jS [iJ .mv [.c zF] 6] .ret)))
 (.seq (jS [iM 13 0, iU .len 13 14, jC 0 15] (.block 0 (.loop (jS [iD B3 15 14 16] (.seq (.ite (.t 16) .skip (.exit 0)) (.seq (.block 1 (jS [iM 17 15,
 iD (.iaS 2) 13 15 18, iU L2 18 19, iJ (.new (.agg [zI, zU])) [] 8, iM 7 17, jW 2 8 19] (.seq (.any [22, 34] [(iU L8 5 20, 1, [22, 34]), (iU L2 8 21, 1, [22, 34]),
 (iD (.call 50) 20 21 22, 3, [22, 34]), (iU U1 22 23, 0, [34]), (iM 24 23, 0, [34]), (jB .mv 7 25 24, 0, [22, 34]), (iG B4 [.t 25, cI 0] 26 24 false, 0, [22, 34]),
 (jB .mv 26 27 24, 0, [22, 34]), (jA .mv 0 28 27, 0, [22, 34]), (jA .mv 7 29 27, 0, [22, 34]), (iG B5 [.t 29, cI 1] 30 27 true, 0, [22, 34]),
 (iG (.iaS 2) [.t 28, .t 30] 31 27 true, 1, [22, 34]), (jA L2 31 32 27, 1, [22, 34]), (jA L2 8 33 27, 1, [22, 34]), (iG (.call 80) [.t 32, .t 33] 34 27 true, 3, [22, 34]),
 (jA U1 34 35 27, 0, [22]), (iG .pick [.t 27, .t 35, .c zF] 36 24 false, 0, [22, 34]), (jP 24 36 37, 0, [22, 34])]) (jI 37 (jS [iJ .mv [.c zF] 6] .ret))))) (.ops [jK B2 15 1 38, iM 15 38]))))))) (jS [iJ .mv [.c zT] 6] .ret))))
theorem fn51 : A5 Tryz.prog 51 = some (39, [.t 6], ir51) := by kernel_rfl
def ir52 : C := (jS [iU .box 0 2, iJ .mv [.c zU] 4] (.seq (jS [jC 0 5] (.block 0 (.loop (.seq (jS [iM 6 5, jK B3 6 8 7] (.ite (.t 7) .skip (.exit 0)))
 (.seq (.block 1 (jS [iM 10 5, jK B2 10 1 11, iM 12 1, iD B1 11 12 13] (jI 13 (jS [iM 14 5, iD (.iaA 8 1) 2 14 15, iU L1 15 16, iM 4 16] .ret)))) (.ops [iM 8 5,
 jK B2 8 1 9, iM 5 9])))))) (jS [iJ .mv [.c zU] 4] .ret)))
theorem fn52 : A5 Tryz.prog 52 = some (17, [.t 4], ir52) := by kernel_rfl
def ir53 : C := (jS [iU .box 0 2, iU .box 1 3, iJ .mv [.c zF] 4] (.seq (.any [12] [(jF 1 3 5, 0, [12]), (iU L1 5 6, 1, [12]), (iJ B4 [.t 6, .c zU] 7, 0, [12]), (iM 8 7, 0, [12]),
 (jA L8 2 9 8, 1, [12]), (jL 0 3 10 8, 0, [12]), (jA L1 10 11 8, 1, [12]), (iG (.call 52) [.t 9, .t 11] 12 8 true, 1, [12]), (jL 1 3 13 8, 0, [12]),
 (jA L1 13 14 8, 1, [12]), (iG B8 [.t 12, .t 14] 15 8 true, 0, []), (jQ 8 15 16, 0, [12]), (iM 4 16, 0, [])]) .ret))
theorem fn53 : A5 Tryz.prog 53 = some (17, [.t 4], ir53) := by kernel_rfl
def ir54 : C := (jS [iU .box 0 1, iJ .mv [.c zF] 2] (jS [jF 0 1 3, iU L1 3 4, jK B1 4 0 5, iM 6 5, jL 1 1 7 6, jA L1 7 8 6,
 iG B1 [.t 8, .c zU] 9 6 true, jQ 6 9 10, iM 2 10] .ret))
theorem fn54 : A5 Tryz.prog 54 = some (11, [.t 2], ir54) := by kernel_rfl
def ir55 : C := (jS [iU .box 1 3, iJ .mv [.c zF] 4] (.seq (jS [jC 0 5] (.block 0 (.loop (.seq (jS [iM 6 5, iM 7 0, iU .len 7 8, iD B3 6 8 9] (.ite (.t 9) .skip
 (.exit 0))) (.seq (.block 1 (.seq (.any [17, 32] [(iU L8 3 12, 1, [17, 32]), (iM 13 0, 0, [17, 32]), (iM 14 5, 0, [17, 32]), (iD (.iaS 2) 13 14 15, 1, [17, 32]), (iU L2 15 16, 1, [17, 32]),
 (iD (.call 53) 12 16 17, 3, [17, 32]), (iU U1 17 18, 0, [32]), (iM 19 18, 0, [32]), (jB .mv 5 20 19, 0, [17, 32]), (iG B4 [.t 20, cI 0] 21 19 false, 0, [17, 32]),
 (jB .mv 21 22 19, 0, [17, 32]), (jA .mv 0 23 22, 0, [17, 32]), (jA .mv 5 24 22, 0, [17, 32]), (iG B5 [.t 24, cI 1] 25 22 true, 0, [17, 32]),
 (iG (.iaS 2) [.t 23, .t 25] 26 22 true, 1, [17, 32]), (jA L2 26 27 22, 1, [17, 32]), (jA .mv 0 28 22, 0, [17, 32]), (jA .mv 5 29 22, 0, [17, 32]),
 (iG (.iaS 2) [.t 28, .t 29] 30 22 true, 1, [17, 32]), (jA L2 30 31 22, 1, [17, 32]), (iG (.call 81) [.t 27, .t 31] 32 22 true, 3, [17, 32]), (jA U1 32 33 22, 0, [17]),
 (iG .pick [.t 22, .t 33, .c zF] 34 19 false, 0, [17, 32]), (jP 19 34 35, 0, [17, 32])]) (jI 35 (jS [iJ .mv [.c zF] 4] .ret)))) (.ops [iM 10 5,
 jK B2 10 1 11, iM 5 11])))))) (jS [iJ .mv [.c zT] 4] .ret)))
theorem fn55 : A5 Tryz.prog 55 = some (36, [.t 4], ir55) := by kernel_rfl
def ir56 : C := (jS [iJ .mv [.c zF] 2] (.seq (jS [iM 8 0, iJ B1 [.t 8, .c zS] 9, iM 10 9, jB .mv 0 11 10, jB .lenS 11 12 10, iG B4 [.t 12, cI 12] 13 10 false,
 jP 10 13 14, iM 15 14, jB .mv 0 16 15, iG B1 [.t 16, .c (.pv (.s [46]))] 17 15 false, jP 15 17 18, iM 19 18, jB .mv 0 20 19,
 iG B1 [.t 20, .c (.pv (.s [46, 46]))] 21 19 false, jP 19 21 22] (jI 22 (jS [iJ .mv [.c zF] 2] .ret))) (.seq (jS [jC 0 3]
 (.block 0 (.loop (.seq (jS [iM 23 3, iM 24 0, iU .lenS 24 25, iD B3 23 25 26] (.ite (.t 26) .skip (.exit 0))) (.seq (.block 1 (jS [iM 29 0, iM 30 3, iD .ixS 29 30 31, iM 4 31]
 (jS [iM 32 4, iJ B8 [.t 32, .c (.pv (.i .u8 97))] 33, iM 34 33, jA .mv 4 35 34, iG B7 [.t 35, .c (.pv (.i .u8 122))] 36 34 true, jQ 34 36 37, iM 38 4,
 iJ B8 [.t 38, .c (.pv (.i .u8 65))] 39, iM 40 39, jA .mv 4 41 40, iG B7 [.t 41, .c (.pv (.i .u8 90))] 42 40 true, jQ 40 42 43, iM 44 4,
 iJ B8 [.t 44, .c (.pv (.i .u8 48))] 45, iM 46 45, jA .mv 4 47 46, iG B7 [.t 47, .c (.pv (.i .u8 57))] 48 46 true, jQ 46 48 49, iM 5 37, iM 6 43, iM 7 49]
 (jS [iM 50 5, iU U1 50 51, iM 52 51, jA .mv 6 53 52, jA U1 53 54 52, jQ 52 54 55, iM 56 55, jA .mv 7 57 56, jA U1 57 58 56,
 jQ 56 58 59, iM 60 59, jA .mv 4 61 60, iG B6 [.t 61, .c (.pv (.i .u8 46))] 62 60 true, jQ 60 62 63, iM 64 63, jA .mv 4 65 64,
 iG B6 [.t 65, .c (.pv (.i .u8 95))] 66 64 true, jQ 64 66 67, iM 68 67, jA .mv 4 69 68, iG B6 [.t 69, .c (.pv (.i .u8 45))] 70 68 true, jQ 68 70 71]
 (jI 71 (jS [iJ .mv [.c zF] 2] .ret)))))) (.ops [iM 27 3, jK B2 27 1 28, iM 3 28])))))) (jS [iJ .mv [.c zT] 2] .ret))))
theorem fn56 : A5 Tryz.prog 56 = some (72, [.t 2], ir56) := by kernel_rfl
def ir57 : C := (jS [iU .box 0 8, iJ .mv [.c zF] 16] (jS [iM 17 1, iM 18 17, jN 11 8 19 18, jB L2 19 20 18, jB (.call 54) 20 21 18,
 jP 18 21 22, iM 23 22, jA .mv 2 24 23, jA .mv 24 25 23, jN 13 8 26 25, jB L2 26 27 25, jB (.call 54) 27 28 25, jB .mv 28 29 25,
 jL 15 8 30 29, jA L1 30 31 29, iG B1 [.t 31, .c zS] 32 29 true, iG .pick [.t 29, .t 32, .c zF] 33 25 false, iG .pick [.t 25, .c zT, .t 33] 34 23 true,
 jQ 23 34 35, iM 36 35, jA .mv 3 37 36, jA .mv 37 38 36, jN 16 8 39 38, jB L1 39 40 38, jB .len 40 41 38, iG B1 [.t 41, cI 0] 42 38 false,
 iG .pick [.t 38, .c zT, .t 42] 43 36 true, jQ 36 43 44, iM 45 44, jA .mv 4 46 45, jA .mv 46 47 45, jN 17 8 48 47, jB L1 48 49 47,
 jB .len 49 50 47, iG B1 [.t 50, cI 0] 51 47 false, iG .pick [.t 47, .c zT, .t 51] 52 45 true, jQ 45 52 53, iM 54 53, jA .mv 5 55 54, jA .mv 55 56 54,
 jN 18 8 57 56, jB L1 57 58 56, iG B1 [.t 58, cI 0] 59 56 false, iG .pick [.t 56, .c zT, .t 59] 60 54 true, jQ 54 60 61, iM 62 61, jA .mv 6 63 62,
 jA .mv 63 64 62, jN 19 8 65 64, jB L1 65 66 64, iG B1 [.t 66, .c zS] 67 64 false, iG .pick [.t 64, .c zT, .t 67] 68 62 true, jQ 62 68 69, iM 70 69,
 jA .mv 7 71 70, jA .mv 71 72 70, jN 20 8 73 72, jB L1 73 74 72, iG B1 [.t 74, cI 0] 75 72 false, iG .pick [.t 72, .c zT, .t 75] 76 70 true,
 jQ 70 76 77, iM 16 77] .ret))
theorem fn57 : A5 Tryz.prog 57 = some (78, [.t 16], ir57) := by kernel_rfl
def ir58 : C := (jS [iJ .mv [.c (.pv (.v .nilFunc))] 2] (jS [iJ (.bsl 1) [] 4, iM 5 0, iD (.app 1 1) 4 5 6, iJ (.new zN) [] 3, jW 1 3 6]
 (jS [iU (.mkf (.func 82)) 3 7, iM 2 7] .ret)))
theorem fn58 : A5 Tryz.prog 58 = some (8, [.t 2], ir58) := by kernel_rfl
def ir59 : C := (jS [iJ (.new zW) [] 2, jC 0 3] (jS [iJ (.new zW) [] 4] (.seq (jS [iM 12 0, iU .len 12 13, jK B3 13 2 14]
 (jI 14 (jS [iJ (.bldV 8 1) [cI 0, cI 0, cI 0, cI 0, cI 0, cI 0, cI 0, cI 0] 15, jW 8 2 15, jC 8 3] .ret))) (.seq (.anyF [] [(iM 16 0, 0, []),
 (jK (.iaS 1) 16 0 17, 1, []), (iU L1 17 18, 1, []), (iM 19 0, 0, []), (jK (.iaS 1) 19 1 20, 1, []), (iU L1 20 21, 1, []), (iM 22 0, 0, []),
 (jK (.slc 1 true false false) 22 2 23, 1, []), (iM 5 18, 0, []), (iM 6 21, 0, []), (iM 7 23, 0, [])]) (.seq (jS [iM 24 5, iM 25 6, iD (.bin .and) 24 25 26,
 iJ B6 [.t 26, .c (.pv (.i .u8 0))] 27] (jI 27 (jS [iJ (.bldV 8 1) [cI 0, cI 0, cI 0, cI 0, cI 0, cI 0, cI 0, cI 0] 28, jW 8 2 28, jC 7 3] .ret)))
 (.seq .skip (.seq (jS [jC 0 29] (.block 0 (.loop (jS [jK B3 29 8 30] (.seq (.ite (.t 30) .skip (.exit 0)) (.seq (.block 1 (jS [iM 31 29, iM 8 31]
 (jS [jC 1 9] (.seq (.block 2 (jS [iM 33 6, iM 34 8, iD (.bin .shr) 33 34 35, iJ (.bin .and) [.t 35, .c (.pv (.i .u8 1))] 36, iJ B1 [.t 36, .c (.pv (.i .u8 1))] 37,
 iM 32 37] (.ite (.t 32) (.ops [iJ .mv [.c (.pv (.i .i64 (-1)))] 9]) (jS [iM 39 5, iM 40 8, iD (.bin .shr) 39 40 41, iJ (.bin .and) [.t 41, .c (.pv (.i .u8 1))] 42,
 iJ B1 [.t 42, .c (.pv (.i .u8 0))] 43, iM 38 43] (jI 38 (.exit 1)))))) (.seq (jS [iM 44 7, iU .len 44 45, jK B1 45 0 46, iM 47 46, jB .mv 7 48 47,
 iG (.iaS 1) [.t 48, cI 0] 49 47 false, jB L1 49 50 47, jB (.cvI .i64) 50 51 47, jB .mv 7 52 47, jB .len 52 53 47, iG B5 [.t 53, cI 1] 54 47 false,
 iG B4 [.t 51, .t 54] 55 47 false, jP 47 55 56] (jI 56 (jS [iJ (.bldV 8 1) [cI 0, cI 0, cI 0, cI 0, cI 0, cI 0, cI 0, cI 0] 57, jW 8 2 57,
 jC 8 3] .ret))) (jS [iM 59 7, iM 60 7, jK (.iaS 1) 60 0 61, iU L1 61 62, iU (.cvI .i64) 62 63, iJ B2 [cI 1, .t 63] 64,
 iJ (.slc 1 true true false) [.t 59, cI 1, .t 64] 65, iU (.call 84) 65 66, iM 58 66, iU (.ext 0) 58 67, iU (.ext 1) 58 68, iM 10 67, iM 11 68] (.seq (jS [iM 69 11, jK B6 69 0 70,
 iM 71 70, jB .mv 10 72 71, iG B1 [.t 72, .c (.pv (.i .u64 0))] 73 71 false, jP 71 73 74, iM 75 74, jB .mv 10 76 75,
 iG B4 [.t 76, .c (.pv (.i .u64 4294967295))] 77 75 false, jP 75 77 78] (jI 78 (jS [iJ (.bldV 8 1) [cI 0, cI 0, cI 0, cI 0, cI 0, cI 0, cI 0, cI 0] 79,
 jW 8 2 79, jC 7 3] .ret))) (jS [iM 80 8, iM 81 9, iM 82 10, iU (.cvI .i64) 82 83, iD (.bin .mul) 81 83 84, iD (.iaA 8 1) 4 80 85, jW 1 85 84]
 (.ops [iM 86 7, iM 87 7, jK (.iaS 1) 87 0 88, iU L1 88 89, iU (.cvI .i64) 89 90, iJ B2 [cI 1, .t 90] 91, iD (.slc 1 true false false) 86 91 92, iM 7 92])))))))))
 (.ops [jK B2 29 1 93, iM 29 93]))))))) (.seq (jS [iM 94 7, iU .len 94 95, jK B4 95 0 96]
 (jI 96 (jS [iJ (.bldV 8 1) [cI 0, cI 0, cI 0, cI 0, cI 0, cI 0, cI 0, cI 0] 97, jW 8 2 97, jC 4 3] .ret))) (jS [iU L8 4 98,
 jW 8 2 98, jC 0 3] .ret)))))))))
theorem fn59 : A5 Tryz.prog 59 = some (99, [.c 2 8 true, .t 3], ir59) := by kernel_rfl
def ir60 : C := (jS [jC 0 2] (jS [iM 6 0, iU (.call 84) 6 7, iM 5 7, iU (.ext 0) 5 8, iU (.ext 1) 5 9, iM 3 8, iM 4 9] (.seq (jS [iM 10 4, jK B6 10 0 11,
 iM 12 11, jB .mv 3 13 12, iG B4 [.t 13, .c (.pv (.i .u64 1073741824))] 14 12 false, jP 12 14 15] (jI 15 (jS [iJ .mv [.c (.pv (.i .i64 (-1)))] 2] .ret))) (jS [iM 16 3, iU (.cvI .i64) 16 17, iM 2 17] .ret))))
theorem fn60 : A5 Tryz.prog 60 = some (18, [.t 2], ir60) := by kernel_rfl
def ir61 : C := (jS [iJ (.new (.agg [zI, zU])) [] 2] (.seq (jS [iM 5 0, iU .len 5 6, jK B1 6 0 7] (jI 7 (jS [iJ (.bld [1, 1]) [cI 0, .c zU] 8,
 jW 2 2 8] .ret))) (jS [iM 10 0, jK (.slc 1 true false false) 10 1 11, iU (.call 84) 11 12, iM 9 12, iU (.ext 0) 9 13, iU (.ext 1) 9 14, iM 3 13, iM 4 14]
 (.seq (jS [iM 15 4, jK B6 15 0 16, iM 17 16, jB .mv 3 18 17, iG B4 [.t 18, .c (.pv (.i .u64 1048576))] 19 17 false, jP 17 19 20]
 (jI 20 (jS [iJ (.bld [1, 1]) [cI 0, .c zU] 21, jW 2 2 21] .ret))) (jS [iM 22 0, jK (.iaS 1) 22 0 23, iU L1 23 24, iU (.cvI .i64) 24 25, iM 26 3,
 iU (.cvI .u32) 26 27, iD (.bld [1, 1]) 25 27 28, jW 2 2 28] .ret)))))
theorem fn61 : A5 Tryz.prog 61 = some (29, [.c 2 2 true], ir61) := by kernel_rfl
def ir62 : C := (jS [iJ .mv [.c zN] 4, jC 0 5] (jS [iM 12 0, iM 13 1, iD (.call 26) 12 13 14, iM 11 14, iU (.ext 0) 11 15, iU (.ext 1) 11 16, iM 6 15, iM 7 16]
 (.seq (jS [iM 17 7, jK B6 17 0 18] (jI 18 (jS [iM 19 7, iJ .mv [.c zN] 4, iM 5 19] .ret))) (jS [iJ .mv [.c zN] 8] (.seq (jS [iM 20 6,
 iU .len 20 21, jC 0 22] (.block 0 (.loop (jS [iD B3 22 21 23] (.seq (.ite (.t 23) .skip (.exit 0)) (.seq (.block 1 (jS [iD (.iaS 1) 20 22 24, iU L1 24 25, iM 10 25]
 (.ops [iM 26 8, iM 27 10, iU (.call 61) 27 28, iU (.bsl 2) 28 29, iD (.app 2 16) 26 29 30, iM 8 30]))) (.ops [jK B2 22 1 31, iM 22 31]))))))) (.seq (jS [iM 32 8, iU (.call 44) 32 33,
 iM 34 0, iD (.call 29) 33 34 35, iU U1 35 36] (jI 36 (jS [iJ .mv [.c zN] 4, jC 7 5] .ret))) (jS [iM 37 8, iM 4 37, jC 0 5] .ret)))))))
theorem fn62 : A5 Tryz.prog 62 = some (38, [.t 4, .t 5], ir62) := by kernel_rfl
def ir63 : C := (jS [iJ .mv [.c (.pv (.i .u8 0))] 2] (jS [iJ .mv [.c (.pv (.i .u8 1))] 3] (.seq (jS [jC 0 4] (.block 0 (.loop (.seq (jS [iM 5 4, iM 6 0,
 iD B3 5 6 7] (.ite (.t 7) .skip (.exit 0))) (.seq (.block 1 (.ops [iM 10 3, iJ (.bin .mul) [.t 10, .c (.pv (.i .u8 2))] 11, iM 3 11])) (.ops [iM 8 4, jK B2 8 1 9, iM 4 9]))))))
 (jS [iM 12 3, iM 2 12] .ret))))
theorem fn63 : A5 Tryz.prog 63 = some (13, [.t 2], ir63) := by kernel_rfl
def ir64 : C := (jS [iJ .mv [.c zS] 2] (.seq (jS [iM 3 0, iJ B1 [.t 3, .c (.pv (.i .u64 0))] 4] (jI 4 (jS [iJ .mv [.c zS] 2] .ret)))
 (.seq (.any [7, 11] [(iM 5 0, 0, [7, 11]), (iJ (.bin .quo) [.t 5, .c (.pv (.i .u64 256))] 6, 0, [7, 11]), (iU (.call 64) 6 7, 1, [7, 11]), (iM 8 0, 0, [7, 11]),
 (iJ (.bin .rem) [.t 8, .c (.pv (.i .u64 256))] 9, 0, [7, 11]), (iU (.cvI .u8) 9 10, 0, [7, 11]), (iU (.bsl 1) 10 11, 1, [7, 11]), (iU .b2s 11 12, 1, [7]), (iD B2 7 12 13, 0, [11]), (iM 2 13, 0, [])])
 .ret)))
theorem fn64 : A5 Tryz.prog 64 = some (14, [.t 2], ir64) := by kernel_rfl
def ir65 : C := (jS [iU .box 0 1, iJ .mv [.c zS] 2] (.seq (jS [iU L2 1 3, iU (.call 54) 3 4] (jI 4 (jS [iJ .mv [.c zS] 2] .ret)))
 (.seq (.any [8, 13] [(jF 0 1 5, 0, [8, 13]), (iU L1 5 6, 1, [8, 13]), (iU (.cvI .u8) 6 7, 0, [8, 13]), (iU (.bsl 1) 7 8, 1, [8, 13]), (iU .b2s 8 9, 1, [13]), (jF 1 1 10, 0, [8, 13]),
 (iU L1 10 11, 1, [8, 13]), (iU (.cvI .u64) 11 12, 0, [8, 13]), (iU (.call 64) 12 13, 1, [8, 13]), (iD B2 9 13 14, 0, [8]), (iM 2 14, 0, [])]) .ret)))
theorem fn65 : A5 Tryz.prog 65 = some (15, [.t 2], ir65) := by kernel_rfl
def ir66 : C := (jS [iJ .mv [.c zS] 2] (jS [iJ .mv [.c zS] 3] (.seq (jS [jC 0 4] (.block 0 (.loop (.seq (jS [iM 7 4, iM 8 0, iU .len 8 9, iD B3 7 9 10]
 (.ite (.t 10) .skip (.exit 0))) (.seq (.block 1 (jS [iM 14 0, iM 15 4, iD (.iaS 2) 14 15 16, iU L2 16 17, iU (.call 65) 17 18, iU (.call 67) 18 19, iM 13 19, iU (.ext 0) 13 20,
 iU (.ext 1) 13 21, iM 5 20, iM 6 21] (.ops [iM 22 3, iM 23 5, iD B2 22 23 24, iM 3 24]))) (.ops [iM 11 4, jK B2 11 1 12, iM 4 12])))))) (jS [iM 25 3, iM 2 25] .ret))))
theorem fn66 : A5 Tryz.prog 66 = some (26, [.t 2], ir66) := by kernel_rfl
def ir67 : C := (jS [iJ .mv [.c zS] 2, iJ .mv [.c zF] 3] (jS [iM 5 0, iU .lenS 5 6, iM 4 6] (.seq (jS [iM 7 4, jK B4 7 65535 8]
 (jI 8 (jS [iJ .mv [.c zS] 2, iJ .mv [.c zF] 3] .ret))) (.seq (jS [iM 9 4, jK B3 9 255 10] (jI 10 (jS [iM 11 4, iU (.cvI .u8) 11 12,
 iU (.bsl 1) 12 13, iU .b2s 13 14, iM 15 0, iD B2 14 15 16, iM 2 16, iJ .mv [.c zT] 3] .ret))) (jS [iM 17 4, jK (.bin .quo) 17 256 18, iU (.cvI .u8) 18 19, iM 20 4,
 jK (.bin .rem) 20 256 21, iU (.cvI .u8) 21 22, iJ (.bsl 1) [.c (.pv (.i .u8 255)), .t 19, .t 22] 23, iU .b2s 23 24, iM 25 0, iD B2 24 25 26, iM 2 26, iJ .mv [.c zT] 3] .ret)))))
theorem fn67 : A5 Tryz.prog 67 = some (27, [.t 2, .t 3], ir67) := by kernel_rfl
def ir68 : C := (jS [iU .box 0 2, iU .box 1 3, iJ .mv [.c zF] 4] (jS [jF 0 2 5, iU L2 5 6, jF 0 3 7, iU L2 7 8, iD (.eqv false [.int .i64, .int .u32]) 6 8 9, iM 10 9,
 jL 2 2 11 10, jA L8 11 12 10, jL 2 3 13 10, jA L8 13 14 10,
 iG (.eqv false [.int .u32, .int .u32, .int .u32, .int .u32, .int .u32, .int .u32, .int .u32, .int .u32]) [.t 12, .t 14] 15 10 true, jQ 10 15 16, iM 17 16,
 jL 10 2 18 17, jA L1 18 19 17, jL 10 3 20 17, jA L1 20 21 17, iG B1 [.t 19, .t 21] 22 17 true, jQ 17 22 23, iM 24 23, jL 11 2 25 24,
 jA L2 25 26 24, jL 11 3 27 24, jA L2 27 28 24, iG (.eqv false [.int .i64, .int .u32]) [.t 26, .t 28] 29 24 true, jQ 24 29 30, iM 31 30,
 jL 13 2 32 31, jA L2 32 33 31, jL 13 3 34 31, jA L2 34 35 31, iG (.eqv false [.int .i64, .int .u32]) [.t 33, .t 35] 36 31 true, jQ 31 36 37,
 iM 38 37, jL 15 2 39 38, jA L1 39 40 38, jL 15 3 41 38, jA L1 41 42 38, iG B1 [.t 40, .t 42] 43 38 true, jQ 38 43 44, iM 45 44,
 jL 16 2 46 45, jA L1 46 47 45, jL 16 3 48 45, jA L1 48 49 45, iG (.call 85) [.t 47, .t 49] 50 45 true, jQ 45 50 51, iM 52 51,
 jL 17 2 53 52, jA L1 53 54 52, jL 17 3 55 52, jA L1 55 56 52, iG (.call 85) [.t 54, .t 56] 57 52 true, jQ 52 57 58, iM 59 58,
 jL 18 2 60 59, jA L1 60 61 59, jL 18 3 62 59, jA L1 62 63 59, iG B1 [.t 61, .t 63] 64 59 true, jQ 59 64 65, iM 66 65, jL 19 2 67 66,
 jA L1 67 68 66, jL 19 3 69 66, jA L1 69 70 66, iG B1 [.t 68, .t 70] 71 66 true, jQ 66 71 72, iM 73 72, jL 20 2 74 73, jA L1 74 75 73,
 jL 20 3 76 73, jA L1 76 77 73, iG B1 [.t 75, .t 77] 78 73 true, jQ 73 78 79, iM 4 79] .ret))
theorem fn68 : A5 Tryz.prog 68 = some (80, [.t 4], ir68) := by kernel_rfl
def ir69 : C := (jS [iJ .mv [.c zN] 2] (.seq (jS [iM 3 0, iU (.eqn false) 3 4] (jI 4 (jS [iJ .mv [.c zN] 2] .ret))) (jS [iJ (.bsl 15) [] 5, iM 6 0,
 iD (.app 15 96) 5 6 7, iM 2 7] .ret)))
theorem fn69 : A5 Tryz.prog 69 = some (8, [.t 2], ir69) := by kernel_rfl
def ir70 : C := (jS [iJ .mv [.c zN] 2] (.seq (jS [iM 3 0, iU (.eqn false) 3 4] (jI 4 (jS [iJ .mv [.c zN] 2] .ret))) (jS [iJ (.bsl 11) [] 5, iM 6 0,
 iD (.app 11 64) 5 6 7, iM 2 7] .ret)))
theorem fn70 : A5 Tryz.prog 70 = some (8, [.t 2], ir70) := by kernel_rfl
def ir74 : C := (jS [iJ .mv [.c zN] 2] (.seq (jS [iM 3 0, iU (.eqn false) 3 4] (jI 4 (jS [iJ .mv [.c zN] 2] .ret))) (jS [iJ (.bsl 2) [] 5, iM 6 0,
 iD (.app 2 16) 5 6 7, iM 2 7] .ret)))
theorem fn74 : A5 Tryz.prog 74 = some (8, [.t 2], ir74) := by kernel_rfl
def ir75 : C := (jS [iU L1 1 6, iU .len 6 7, jC 0 8] (.block 0 (.loop (jS [iD B3 8 7 9] (.seq (.ite (.t 9) .skip (.exit 0)) (.seq (.block 1 (jS [iD (.iaS 21) 6 8 10,
 iU (.ld 21 true) 10 11, jE 5, jW 21 5 11] (jS [iU L8 2 12, jF 0 5 13, iU L2 13 14,
 iD (.call 50) 12 14 15, iU U1 15 16, iM 17 16, jA .mv 0 18 17, jA (.ld 21 true) 5 19 17, jA (.call 37) 19 20 17, iG .yv [.t 18, .t 20] 21 17 true, jA U1 21 22 17,
 jQ 17 22 23] (jI 23 .ret)))) (.ops [jK B2 8 1 24, iM 8 24])))))))
theorem fn75 : A5 Tryz.prog 75 = some (25, [], ir75) := by kernel_rfl
def ir77 : C := (jS [iJ .mv [.c zF] 2] (jS [iM 3 0, iJ B8 [.t 3, .c (.pv (.i .i32 97))] 4, iM 5 4, jA .mv 0 6 5, iG B7 [.t 6, .c (.pv (.i .i32 122))] 7 5 true,
 jQ 5 7 8, iM 9 8, jB .mv 0 10 9, iG B8 [.t 10, .c (.pv (.i .i32 65))] 11 9 false, jB .mv 11 12 9, jA .mv 0 13 12,
 iG B7 [.t 13, .c (.pv (.i .i32 90))] 14 12 true, iG .pick [.t 12, .t 14, .c zF] 15 9 false, jP 9 15 16, iM 2 16] .ret))
theorem fn77 : A5 Tryz.prog 77 = some (17, [.t 2], ir77) := by kernel_rfl
def ir78 : C := (jS [iJ .mv [.c zF] 4] (jS [iM 5 0, iM 6 1, iD (.call 93) 5 6 7, jK B8 7 0 8, iM 4 8] .ret))
theorem fn78 : A5 Tryz.prog 78 = some (9, [.t 4], ir78) := by kernel_rfl
def ir79 : C := (jS [iU .box 0 2, iJ .mv [.c zU] 4] (.seq (jS [iM 5 1, jK B3 5 1 6, iM 7 6, jB .mv 1 8 7, iG B4 [.t 8, cI 8] 9 7 false,
 jP 7 9 10] (jI 10 (jS [iJ .mv [.c zU] 4] .ret))) (jS [iM 11 1, jK B5 11 1 12, iD (.iaA 8 1) 2 12 13, iU L1 13 14, iM 4 14] .ret)))
theorem fn79 : A5 Tryz.prog 79 = some (15, [.t 4], ir79) := by kernel_rfl
def ir80 : C := (jS [iU .box 0 2, iU .box 1 3, iJ .mv [.c zF] 4] (.seq (jS [jF 1 2 5, iU L1 5 6, jF 1 3 7, iU L1 7 8, iD B6 6 8 9]
 (jI 9 (jS [jF 1 2 10, iU L1 10 11, jF 1 3 12, iU L1 12 13, iD B3 11 13 14, iM 4 14] .ret))) (jS [jF 0 2 15, iU L1 15 16, jF 0 3 17, iU L1 17 18,
 iD B3 16 18 19, iM 4 19] .ret)))
theorem fn80 : A5 Tryz.prog 80 = some (20, [.t 4], ir80) := by kernel_rfl
def ir81 : C := (jS [iU .box 0 2, iU .box 1 3, iJ .mv [.c zF] 4] (jS [jF 1 2 5, iU L1 5 6, jF 1 3 7, iU L1 7 8, iD B3 6 8 9, iM 10 9, jN 1 2 11 10,
 jB L1 11 12 10, jN 1 3 13 10, jB L1 13 14 10, iG B1 [.t 12, .t 14] 15 10 false, jB .mv 15 16 10, jL 0 2 17 16, jA L1 17 18 16, jL 0 3 19 16,
 jA L1 19 20 16, iG B3 [.t 18, .t 20] 21 16 true, iG .pick [.t 16, .t 21, .c zF] 22 10 false, jP 10 22 23, iM 4 23] .ret))
theorem fn81 : A5 Tryz.prog 81 = some (24, [.t 4], ir81) := by kernel_rfl
def ir82 : C := (jS [iU L1 1 7, iM 3 7] (.block 0 (.loop (.seq (jS [iM 8 3, iU .len 8 9, jK B4 9 0 10] (.ite (.t 10) .skip (.exit 0))) (.block 1 (jS [iM 12 3,
 iU (.call 83) 12 13, iM 11 13, iU (.ext 0) 11 14, iU (.ext 1) 11 15, iU (.ext 2) 11 16, iM 4 14, iM 5 15, iM 6 16] (.seq (jS [iM 17 6, jK B1 17 0 18, iM 19 18, jA .mv 4 20 19,
 jA .mv 3 21 19, jA .len 21 22 19, jA .mv 5 23 19, iG B5 [.t 22, .t 23] 24 19 true, iG B4 [.t 20, .t 24] 25 19 true, jQ 19 25 26]
 (jI 26 (.ops [jC 8 6]))) (.seq (jS [iM 27 6, jK B6 27 0 28] (jI 28 (jS [iM 29 0, iM 30 6, iJ .yv [.t 29, .c zN, .t 30] 31] .ret)))
 (.seq (jS [iM 32 0, iJ (.bsl 1) [] 33, iM 34 3, iM 35 5, iM 36 5, iM 37 4, iD B2 36 37 38, iJ (.slc 1 true true false) [.t 34, .t 35, .t 38] 39, iD (.app 1 1) 33 39 40,
 iJ .yv [.t 32, .t 40, cI 0] 41, iU U1 41 42] (jI 42 .ret)) (.ops [iM 43 3, iM 44 5, iM 45 4, iD B2 44 45 46, iD (.slc 1 true false false) 43 46 47, iM 3 47]))))))))))
theorem fn82 : A5 Tryz.prog 82 = some (48, [], ir82) := by kernel_rfl
def ir83 : C := (jS [jC 0 2, jC 0 3, jC 0 4] (.seq (jS [iM 6 0, jK (.iaS 1) 6 0 7, iU L1 7 8, iJ B3 [.t 8, .c (.pv (.i .u8 255))] 9]
 (jI 9 (jS [iM 10 0, jK (.iaS 1) 10 0 11, iU L1 11 12, iU (.cvI .i64) 12 13, iM 2 13, jC 1 3, jC 0 4] .ret))) (.seq (jS [iM 14 0,
 iU .len 14 15, jK B3 15 3 16] (jI 16 (jS [jC 0 2, jC 0 3, jC 8 4] .ret))) (.seq (.any [] [(iM 17 0, 0, []),
 (jK (.iaS 1) 17 1 18, 1, []), (iU L1 18 19, 1, []), (iU (.cvI .i64) 19 20, 0, []), (iJ (.bin .shl) [.t 20, .c (.pv (.i .u64 8))] 21, 0, []), (iM 22 0, 0, []),
 (jK (.iaS 1) 22 2 23, 1, []), (iU L1 23 24, 1, []), (iU (.cvI .i64) 24 25, 0, []), (iD (.bin .or) 21 25 26, 0, []), (iM 5 26, 0, [])]) (.seq (jS [iM 27 5, jK B3 27 255 28]
 (jI 28 (jS [jC 0 2, jC 0 3, jC 7 4] .ret))) (jS [iM 29 5, iM 2 29, jC 3 3, jC 0 4] .ret))))))
theorem fn83 : A5 Tryz.prog 83 = some (30, [.t 2, .t 3, .t 4], ir83) := by kernel_rfl
def ir84 : C := (jS [iJ .mv [.c (.pv (.i .u64 0))] 2, jC 0 3] (.seq (.block 0 (jS [iM 8 0, iU .len 8 9, jK B4 9 8 10, iM 7 10]
 (.ite (.t 7) (jS [iJ .mv [.c (.pv (.i .u64 0))] 2, jC 4 3] .ret) (jS [iM 12 0, iU .len 12 13, jK B4 13 0 14, iM 15 14, jA .mv 0 16 15,
 iG (.iaS 1) [.t 16, cI 0] 17 15 true, jA L1 17 18 15, iG B1 [.t 18, .c (.pv (.i .u8 0))] 19 15 true, jQ 15 19 20, iM 11 20]
 (jI 11 (jS [iJ .mv [.c (.pv (.i .u64 0))] 2, jC 7 3] .ret)))))) (jS [iJ .mv [.c (.pv (.i .u64 0))] 4] (.seq (jS [iM 21 0, iU .len 21 22,
 jC 0 23] (.block 1 (.loop (jS [iD B3 23 22 24] (.seq (.ite (.t 24) .skip (.exit 1)) (.seq (.block 2 (jS [iD (.iaS 1) 21 23 25, iU L1 25 26, iM 6 26] (.ops [iM 27 4,
 iJ (.bin .shl) [.t 27, .c (.pv (.i .u64 8))] 28, iM 29 6, iU (.cvI .u64) 29 30, iD (.bin .or) 28 30 31, iM 4 31]))) (.ops [jK B2 23 1 32, iM 23 32]))))))) (jS [iM 33 4, iM 2 33,
 jC 0 3] .ret)))))
theorem fn84 : A5 Tryz.prog 84 = some (34, [.t 2, .t 3], ir84) := by kernel_rfl
def ir85 : C := (jS [iJ .mv [.c zF] 4] (.seq (jS [iM 6 0, iU .len 6 7, iM 8 1, iU .len 8 9, iD B6 7 9 10] (jI 10 (jS [iJ .mv [.c zF] 4] .ret)))
 (.seq (jS [jC 0 5] (.block 0 (.loop (.seq (jS [iM 11 5, iM 12 0, iU .len 12 13, iD B3 11 13 14] (.ite (.t 14) .skip (.exit 0)))
 (.seq (.block 1 (.seq (.any [] [(iM 17 0, 0, []), (iM 18 5, 0, []), (iD (.iaS 2) 17 18 19, 1, []), (iU L2 19 20, 1, []), (iM 21 1, 0, []), (iM 22 5, 0, []), (iD (.iaS 2) 21 22 23, 1, []),
 (iU L2 23 24, 1, []), (iD (.eqv true [.int .i64, .int .u32]) 20 24 25, 0, [])]) (jI 25 (jS [iJ .mv [.c zF] 4] .ret)))) (.ops [iM 15 5, jK B2 15 1 16, iM 5 16]))))))
 (jS [iJ .mv [.c zT] 4] .ret))))
theorem fn85 : A5 Tryz.prog 85 = some (26, [.t 4], ir85) := by kernel_rfl
def ir93 : C := (jS [jC 0 4] (.block 0 (jS [iM 161 1, iJ B7 [.c (.pv (.i .i32 0)), .t 161] 162, iM 163 162, jA .mv 1 164 163,
 iG B3 [.t 164, .c (.pv (.i .i32 128))] 165 163 true, jQ 163 165 166, iM 160 166] (.ite (.t 160) (jS [iM 167 0, iM 168 1, iU (.cvI .u8) 168 169,
 iD (.call 107) 167 169 170, iM 4 170] .ret) (jS [iM 172 1, iJ B1 [.t 172, .c (.pv (.i .i32 65533))] 173, iM 171 173] (.ite (.t 171) (.seq (jS [iM 174 0, iU .rgs 174 175]
 (.block 9 (.loop (jS [iU .nxs 175 176, iU (.ext 0) 176 177] (.seq (.ite (.t 177) .skip (.exit 9)) (.block 10 (jS [iU (.ext 1) 176 178, iU (.ext 2) 176 179, iM 5 178, iM 6 179]
 (jS [iM 180 6, iJ B1 [.t 180, .c (.pv (.i .i32 65533))] 181] (jI 181 (jS [iM 182 5, iM 4 182] .ret)))))))))) (jS [iJ .mv [.c (.pv (.i .i64 (-1)))] 4] .ret))
 (jS [iM 184 1, iU (.call 108) 184 185, iU U1 185 186, iM 183 186] (.ite (.t 183) (jS [iJ .mv [.c (.pv (.i .i64 (-1)))] 4] .ret) (jS [iM 17 1, iU .r2s 17 18, iM 7 18]
 (jS [iM 19 7, iU .lenS 19 20, jK B5 20 1 21, iM 8 21] (jS [iM 22 8, iM 9 22] (jS [jC 0 10] (.seq (.block 1 (.loop (.seq (jS [iM 23 9, iM 24 0,
 iU .lenS 24 25, iD B3 23 25 26] (.ite (.t 26) .skip (.exit 1))) (.block 2 (.seq (.seq (.any [] [(iM 27 0, 0, []), (iM 28 9, 0, []), (iD .ixS 27 28 29, 0, []), (iM 30 7, 0, []), (iM 31 8, 0, []),
 (iD .ixS 30 31 32, 0, []), (iD B6 29 32 33, 0, [])]) (jI 33 (.seq (.any [41] [(iM 34 0, 0, [41]), (iM 35 9, 0, [41]), (jK B2 35 1 36, 0, [41]),
 (iD (.sls true false) 34 36 37, 0, [41]), (iM 38 7, 0, [41]), (iM 39 8, 0, [41]), (iD .ixS 38 39 40, 0, [41]), (iD (.call 107) 37 40 41, 3, [41]), (iM 11 41, 0, [])]) (.seq (jS [iM 42 11,
 jK B3 42 0 43] (jI 43 (jS [iJ .mv [.c (.pv (.i .i64 (-1)))] 4] .ret))) (.ops [iM 44 9, iM 45 11, jK B2 45 1 46, iD B2 44 46 47, iM 9 47])))))
 (.seq (jS [jC 1 12] (.block 3 (.loop (.seq (jS [iM 48 12, iM 49 7, iU .lenS 49 50, iD B3 48 50 51] (.ite (.t 51) .skip (.exit 3)))
 (.seq (.block 4 (.seq (.any [] [(iM 54 0, 0, []), (iM 55 9, 0, []), (iM 56 12, 0, []), (iD B5 55 56 57, 0, []), (iD .ixS 54 57 58, 0, []), (iM 59 7, 0, []), (iM 60 8, 0, []), (iM 61 12, 0, []),
 (iD B5 60 61 62, 0, []), (iD .ixS 59 62 63, 0, []), (iD B6 58 63 64, 0, [])]) (jI 64 .bad))) (.ops [iM 52 12, jK B2 52 1 53, iM 12 53])))))) (.seq (jS [iM 65 9, iM 66 8,
 iD B5 65 66 67, iM 4 67] .ret) (.seq .skip (jS [iM 68 10, jK B2 68 1 69, iM 10 69] (jS [iM 70 9, jK B2 70 1 71, iM 9 71] (jS [iJ .mv [.c zT] 72,
 jA .mv 10 73 72, jA .mv 9 74 72, jA (.call 109) 74 75 72, iG B4 [.t 73, .t 75] 76 72 true, jQ 72 76 77, iM 78 77, jA .mv 9 79 78, jA .mv 0 80 78,
 jA .lenS 80 81 78, iG B3 [.t 79, .t 81] 82 78 true, jQ 78 82 83, iM 84 83, iG .mv [.c zF] 85 84 false, jA .mv 10 86 85, jA .mv 9 87 85,
 iG (.bin .shr) [.t 87, .c (.pv (.i .u64 4))] 88 85 true, iG B2 [cI 4, .t 88] 89 85 true, iG B8 [.t 86, .t 89] 90 85 true, iG .pick [.t 85, .t 90, .c zF] 91 84 false, jB .mv 91 92 84,
 jA .mv 9 93 92, jA .mv 0 94 92, jA .lenS 94 95 92, iG B3 [.t 93, .t 95] 96 92 true, iG .pick [.t 92, .t 96, .c zF] 97 84 false, jP 84 97 98] (jI 98 .bad)))))))))))) (.seq (jS [iJ .mv [.c (.pv (.i .i64 (-1)))] 4] .ret) (.seq .skip (.seq (.ite (.c zT) (jS [iM 99 0, iM 100 9, iM 101 8, iD B5 100 101 102,
 iD (.sls true false) 99 102 103, iM 104 1, iU .r2s 104 105, iD (.call 110) 103 105 106, iM 13 106] (jS [iM 107 13, jK B8 107 0 108] (jI 108 (jS [iM 109 9, iM 110 13,
 iD B2 109 110 111, iM 112 8, iD B5 111 112 113, iM 4 113] .ret)))) (jS [iM 114 7, iM 115 8, iD .ixS 114 115 116, iM 14 116] (jS [iM 117 7, iM 118 8, jK B5 118 1 119,
 iD .ixS 117 119 120, iM 15 120] (.seq .skip (.block 5 (.loop (.seq (jS [iM 121 9, iM 122 0, iU .lenS 122 123, iD B3 121 123 124] (.ite (.t 124) .skip (.exit 5)))
 (.seq (.block 6 (jS [iM 127 0, iM 128 9, iD .ixS 127 128 129, iM 130 14, iD B1 129 130 131, iM 132 131, jA .mv 0 133 132, jA .mv 9 134 132, iG B5 [.t 134, cI 1] 135 132 true,
 iG .ixS [.t 133, .t 135] 136 132 true, jA .mv 15 137 132, iG B1 [.t 136, .t 137] 138 132 true, jQ 132 138 139] (jI 139 (.seq (jS [jC 2 16]
 (.block 7 (.loop (.seq (jS [iM 140 16, iM 141 7, iU .lenS 141 142, iD B3 140 142 143] (.ite (.t 143) .skip (.exit 7))) (.seq (.block 8 (.seq (.any [] [(iM 146 0, 0, []), (iM 147 9, 0, []),
 (iM 148 16, 0, []), (iD B5 147 148 149, 0, []), (iD .ixS 146 149 150, 0, []), (iM 151 7, 0, []), (iM 152 8, 0, []), (iM 153 16, 0, []), (iD B5 152 153 154, 0, []), (iD .ixS 151 154 155, 0, []),
 (iD B6 150 155 156, 0, [])]) (jI 156 (.exit 6)))) (.ops [iM 144 16, jK B2 144 1 145, iM 16 145])))))) (jS [iM 157 9, iM 158 8, iD B5 157 158 159, iM 4 159] .ret))))) (.ops [iM 125 9, jK B2 125 1 126, iM 9 126]))))))))) (jS [iJ .mv [.c (.pv (.i .i64 (-1)))] 4] .ret)))))))))))))))))
theorem fn93 : A5 Tryz.prog 93 = some (187, [.t 4], ir93) := by kernel_rfl
def ir107 : C := (jS [jC 0 4] (jS [iM 5 0, iM 6 1, iD (.call 120) 5 6 7, iM 4 7] .ret))
theorem fn107 : A5 Tryz.prog 107 = some (8, [.t 4], ir107) := by kernel_rfl
def ir108 : C := (jS [iJ .mv [.c zF] 2] (.seq (.block 0 (jS [iM 4 0, iJ B7 [.c (.pv (.i .i32 0)), .t 4] 5, iM 6 5, jA .mv 0 7 6, iG B3 [.t 7, .c (.pv (.i .i32 55296))] 8 6 true,
 jQ 6 8 9, iM 3 9] (.ite (.t 3) (jS [iJ .mv [.c zT] 2] .ret) (jS [iM 11 0, iJ B3 [.c (.pv (.i .i32 57343)), .t 11] 12, iM 13 12, jA .mv 0 14 13,
 iG B7 [.t 14, .c (.pv (.i .i32 1114111))] 15 13 true, jQ 13 15 16, iM 10 16] (jI 10 (jS [iJ .mv [.c zT] 2] .ret)))))) (jS [iJ .mv [.c zF] 2]
 .ret)))
theorem fn108 : A5 Tryz.prog 108 = some (17, [.t 2], ir108) := by kernel_rfl
def ir120 : C := (jS [jC 0 4] (jS [iM 5 0, iM 6 1, iD (.call 124) 5 6 7, iM 4 7] .ret))
theorem fn120 : A5 Tryz.prog 120 = some (8, [.t 4], ir120) := by kernel_rfl
end Go.Proofs.YtpgnmmmcomhdcaaGreat.Fw
