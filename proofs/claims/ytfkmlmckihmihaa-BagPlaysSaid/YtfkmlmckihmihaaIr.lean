/- The functions of the program in the small language, each checked against the program. -/
import Derived.Test.YtfkmlmckihmihaaFwD
import Derived.Test.YtfkmlmckihmihaaProg
import Derived.ProofKit
set_option linter.unusedVariables false
set_option linter.unusedSimpArgs false
set_option linter.unusedSectionVars false
set_option maxRecDepth 100000
namespace Go.Proofs.Ytfkmlmckihmihaa.Fw
open Go.Proofs
theorem mixed : Try.prog.follows .mixedOrders = true := by kernel_rfl
def ir5 : C :=
 (.seq (.ops [iJ (.new (.pv (.b false))) [] 6])
 (.seq (.seq (.ops [iJ (.call 9) [] 17,
  iJ (.un .not) [.t 17] 18,
  iM 19 18,
  iG .mv [.t 1] 20 19 false,
  iG (.call 10) [.t 20] 21 19 false,
  iG (.un .not) [.t 21] 22 19 false,
  iJ .pick [.t 19, .c (.pv (.b true)), .t 22] 23])
 (.ite (.t 23) (.seq (.ops [iJ (.call 9) [] 24,
   iO (.sto 1) [.t 6, .t 24]])
  .ret)
  .skip))
 (.seq (.ops [iM 25 0,
  iJ (.call 11) [.t 25] 26,
  iM 7 26])
 (.seq (.ops [iM 27 0,
  iJ (.bld [1, 1]) [.c (.pv (.sl true 0 [])), .t 27] 28,
  iJ (.new (.agg [.pv (.sl true 0 []), .pv (.i .i64 0)])) [] 8,
  iO (.sto 2) [.t 8, .t 28]])
 (.seq (.seq (.ops [iM 29 1,
  iJ .len [.t 29] 30,
  iJ .mv [cI 0] 31])
 (.block 0 (.loop (.seq (.ops [iJ (.bin .lss) [.t 31, .t 30] 32])
   (.seq (.ite (.t 32) .skip
    (.exit 0))
   (.seq (.block 1 (.seq (.ops [iJ (.iaS 78) [.t 29, .t 31] 33,
     iJ (.ld 78 true) [.t 33] 34,
     iJ (.new (.agg [.pv (.i .i64 0), .pv (.i .i64 0), .pv (.i .i64 0), .pv (.i .i64 0), .vec 8 (List.replicate 8 (.i .u32 0)), .vec 64 (List.replicate 64 (.i .u32 0)), .pv (.sl true 0 []), .pv (.i .i64 0)])) [] 10,
     iO (.sto 78) [.t 10, .t 34]])
    (.seq (.ops [iM 36 7,
     iJ (.ld 2 true) [.t 8] 37,
     iJ (.ld 78 true) [.t 10] 38,
     iJ (.call 19) [.t 36, .t 37, .t 38] 39,
     iM 35 39,
     iJ (.ext 0) [.t 35] 40,
     iJ (.ext 1) [.t 35] 41,
     iJ (.new (.agg [.pv (.sl true 0 []), .pv (.i .i64 0)])) [] 11,
     iO (.sto 2) [.t 11, .t 40],
     iM 12 41])
    (.seq (.ops [iJ (.ld 2 true) [.t 11] 42,
     iO (.sto 2) [.t 8, .t 42]])
    (.seq (.any [47] [(iM 43 12, 0, [47]),
     (iJ (.un .not) [.t 43] 44, 0, [47]),
     (iM 45 44, 0, [47]),
     (iG .mv [.t 7] 46 45 false, 0, [47]),
     (iG (.call 16) [.t 46] 47 45 false, 1, [47]),
     (iG (.fa 0) [.t 8] 48 45 false, 0, [47]),
     (iG (.ld 1 false) [.t 48] 49 45 false, 1, [47]),
     (iG .len [.t 49] 50 45 false, 1, [47]),
     (iG (.bin .neq) [.t 47, .t 50] 51 45 false, 0, []),
     (iJ .pick [.t 45, .c (.pv (.b true)), .t 51] 52, 0, [47])])
    (.ite (.t 52) (.seq (.ops [iO (.sto 1) [.t 6, .c (.pv (.b false))]])
     .ret)
     .skip))))))
   (.ops [iJ (.bin .add) [.t 31, cI 1] 53,
    iM 31 53])))))))
 (.seq (.ops [iM 54 2,
  iJ (.cvI .u64) [.t 54] 55,
  iJ (.bin .rem) [.t 55, .c (.pv (.i .u64 20))] 56,
  iJ (.cvI .i64) [.t 56] 57,
  iJ (.bin .add) [cI 1, .t 57] 58,
  iJ (.new (.pv (.i .i64 0))) [] 13,
  iJ (.new (.pv (.i .i64 0))) [] 14,
  iO (.sto 1) [.t 13, cI 0],
  iO (.sto 1) [.t 14, .t 58]])
 (.seq (.seq (.ops [iM 59 7,
  iJ (.call 20) [.t 59] 60])
 (.block 2 (.rng (.t 60) [61, 62] (.seq (.ops [iM 15 61])
   (.ops [iJ (.new (.agg [.pv (.i .i64 0), .pv (.i .i64 0), .pv (.i .i64 0), .vec 8 (List.replicate 8 (.i .u32 0)), .vec 64 (List.replicate 64 (.i .u32 0)), .pv (.sl true 0 [])])) [] 16,
    iO (.sto 76) [.t 16, .t 62]]))
   (.block 3 (.seq (.seq (.any [80] [(iM 63 15, 0, [80]),
     (iJ (.ld 1 false) [.t 13] 64, 1, [80]),
     (iJ (.bin .neq) [.t 63, .t 64] 65, 0, [80]),
     (iM 66 65, 0, [80]),
     (iG (.ld 1 false) [.t 13] 67 66 false, 1, [80]),
     (iG (.fa 0) [.t 8] 68 66 false, 0, [80]),
     (iG (.ld 1 false) [.t 68] 69 66 false, 1, [80]),
     (iG .len [.t 69] 70 66 false, 1, [80]),
     (iG (.bin .geq) [.t 67, .t 70] 71 66 false, 0, [80]),
     (iJ .pick [.t 66, .c (.pv (.b true)), .t 71] 72, 0, [80]),
     (iM 73 72, 0, [80]),
     (iG (.ld 76 true) [.t 16] 74 73 false, 1, [80]),
     (iG (.fa 0) [.t 8] 75 73 false, 0, [80]),
     (iG (.ld 1 false) [.t 75] 76 73 false, 1, [80]),
     (iG (.ld 1 false) [.t 13] 77 73 false, 1, [80]),
     (iG (.iaS 76) [.t 76, .t 77] 78 73 false, 1, [80]),
     (iG (.ld 76 true) [.t 78] 79 73 false, 1, [80]),
     (iG (.call 15) [.t 74, .t 79] 80 73 false, 3, [80]),
     (iG (.un .not) [.t 80] 81 73 false, 0, []),
     (iJ .pick [.t 73, .c (.pv (.b true)), .t 81] 82, 0, [80])])
    (.ite (.t 82) (.seq (.ops [iO (.sto 1) [.t 6, .c (.pv (.b false))]])
     .ret)
     .skip))
    (.seq (.ops [iJ (.ld 1 false) [.t 13] 83,
     iJ (.bin .add) [.t 83, cI 1] 84,
     iO (.sto 1) [.t 13, .t 84]])
    (.seq (.ops [iJ (.ld 1 false) [.t 13] 85,
     iJ (.ld 1 false) [.t 14] 86,
     iJ (.bin .eql) [.t 85, .t 86] 87])
    (.ite (.t 87) (.exit 2)
     .skip))))))))
 (.seq (.ops [iJ (.ld 1 false) [.t 13] 88,
  iJ (.ld 1 false) [.t 14] 89,
  iJ (.fa 0) [.t 8] 90,
  iJ (.ld 1 false) [.t 90] 91,
  iJ .len [.t 91] 92,
  iJ .mn [.t 89, .t 92] 93,
  iJ (.bin .eql) [.t 88, .t 93] 94,
  iO (.sto 1) [.t 6, .t 94]])
 .ret))))))))
theorem fn5 : fnOf Try.prog 5 = some (95, [.c 6 1 false], ir5) := by kernel_rfl
def ir9 : C :=
 (.seq (.ops [iJ .mv [.c (.pv (.b false))] 0])
 (.seq (.ops [iJ (.call 11) [cI 3] 4,
  iM 1 4])
 (.seq (.seq (.ops [iM 5 1,
  iJ (.eqv false []) [.t 5] 6,
  iM 7 6,
  iG .mv [.t 1] 8 7 false,
  iG (.call 17) [cI 1, cI 2] 9 7 false,
  iG (.call 12) [.t 8, .t 9] 10 7 false,
  iG (.bin .neq) [.t 10, cI 0] 11 7 false,
  iJ .pick [.t 7, .c (.pv (.b true)), .t 11] 12,
  iM 13 12,
  iG .mv [.t 1] 14 13 false,
  iG (.call 17) [cI 2, cI 3] 15 13 false,
  iG (.call 12) [.t 14, .t 15] 16 13 false,
  iG (.bin .neq) [.t 16, cI 0] 17 13 false,
  iJ .pick [.t 13, .c (.pv (.b true)), .t 17] 18,
  iM 19 18,
  iG .mv [.t 1] 20 19 false,
  iG (.call 13) [.t 20, cI 0] 21 19 false,
  iG (.bin .neq) [.t 21, cI 0] 22 19 false,
  iJ .pick [.t 19, .c (.pv (.b true)), .t 22] 23,
  iM 24 23,
  iG .mv [.t 1] 25 24 false,
  iG (.call 16) [.t 25] 26 24 false,
  iG (.bin .neq) [.t 26, cI 2] 27 24 false,
  iJ .pick [.t 24, .c (.pv (.b true)), .t 27] 28])
 (.ite (.t 28) (.seq (.ops [iJ .mv [.c (.pv (.b false))] 0])
  .ret)
  .skip))
 (.seq (.ops [iM 30 1,
  iJ (.call 21) [.t 30, cI 1] 31,
  iM 29 31,
  iJ (.ext 0) [.t 29] 32,
  iJ (.ext 1) [.t 29] 33,
  iJ (.new (.agg [.pv (.i .i64 0), .pv (.i .i64 0), .pv (.i .i64 0), .vec 8 (List.replicate 8 (.i .u32 0)), .vec 64 (List.replicate 64 (.i .u32 0)), .pv (.sl true 0 [])])) [] 2,
  iO (.sto 76) [.t 2, .t 32],
  iM 3 33])
 (.seq (.ops [iM 34 3,
  iJ (.bin .eql) [.t 34, cI 0] 35,
  iM 36 35,
  iG (.fa 1) [.t 2] 37 36 true,
  iG (.ld 1 false) [.t 37] 38 36 true,
  iG (.bin .eql) [.t 38, cI 1] 39 36 true,
  iJ .pick [.t 36, .t 39, .c (.pv (.b false))] 40,
  iM 0 40])
 .ret)))))
theorem fn9 : fnOf Try.prog 9 = some (41, [.t 0], ir9) := by kernel_rfl
def ir10 : C :=
 (.seq (.ops [iJ .mv [.c (.pv (.b false))] 2])
 (.seq (.seq (.ops [iM 7 0,
  iJ .len [.t 7] 8,
  iJ (.bin .gtr) [.t 8, cI 40] 9])
 (.ite (.t 9) (.seq (.ops [iJ .mv [.c (.pv (.b false))] 2])
  .ret)
  .skip))
 (.seq (.seq (.ops [iM 10 0,
  iJ .len [.t 10] 11,
  iJ .mv [cI 0] 12])
 (.block 0 (.loop (.seq (.ops [iJ (.bin .lss) [.t 12, .t 11] 13])
   (.seq (.ite (.t 13) .skip
    (.exit 0))
   (.seq (.block 1 (.seq (.ops [iJ (.iaS 78) [.t 10, .t 12] 14,
     iJ (.ld 78 true) [.t 14] 15,
     iJ (.new (.agg [.pv (.i .i64 0), .pv (.i .i64 0), .pv (.i .i64 0), .pv (.i .i64 0), .vec 8 (List.replicate 8 (.i .u32 0)), .vec 64 (List.replicate 64 (.i .u32 0)), .pv (.sl true 0 []), .pv (.i .i64 0)])) [] 4,
     iO (.sto 78) [.t 4, .t 15]])
    (.seq (.seq (.ops [iJ (.fa 1) [.t 4] 16,
     iJ (.fa 75) [.t 16] 17,
     iJ (.ld 1 false) [.t 17] 18,
     iJ .len [.t 18] 19,
     iJ (.bin .gtr) [.t 19, cI 10] 20])
    (.ite (.t 20) (.seq (.ops [iJ .mv [.c (.pv (.b false))] 2])
     .ret)
     .skip))
    (.seq (.ops [iJ (.fa 1) [.t 4] 21,
     iJ (.fa 75) [.t 21] 22,
     iJ (.ld 1 false) [.t 22] 23,
     iJ .len [.t 23] 24,
     iJ .mv [cI 0] 25])
    (.block 2 (.loop (.seq (.ops [iJ (.bin .lss) [.t 25, .t 24] 26])
      (.seq (.ite (.t 26) .skip
       (.exit 2))
      (.seq (.block 3 (.seq (.ops [iJ (.iaS 21) [.t 23, .t 25] 27,
        iJ (.ld 21 true) [.t 27] 28,
        iJ (.new (.agg [.pv (.i .i64 0), .pv (.i .u32 0), .vec 8 (List.replicate 8 (.i .u32 0)), .pv (.i .i64 0), .pv (.i .i64 0), .pv (.i .u32 0), .pv (.i .i64 0), .pv (.i .u32 0), .pv (.s []), .pv (.sl true 0 []), .pv (.sl true 0 []), .pv (.i .i64 0), .pv (.s []), .pv (.i .i64 0)])) [] 6,
        iO (.sto 21) [.t 6, .t 28]])
       (.seq (.ops [iJ (.fa 15) [.t 6] 29,
        iJ (.ld 1 false) [.t 29] 30,
        iJ .lenS [.t 30] 31,
        iJ (.bin .gtr) [.t 31, cI 30] 32,
        iM 33 32,
        iG (.fa 19) [.t 6] 34 33 false,
        iG (.ld 1 false) [.t 34] 35 33 false,
        iG .lenS [.t 35] 36 33 false,
        iG (.bin .gtr) [.t 36, cI 250] 37 33 false,
        iJ .pick [.t 33, .c (.pv (.b true)), .t 37] 38,
        iM 39 38,
        iG (.fa 16) [.t 6] 40 39 false,
        iG (.ld 1 false) [.t 40] 41 39 false,
        iG .len [.t 41] 42 39 false,
        iG (.bin .gtr) [.t 42, cI 10] 43 39 false,
        iJ .pick [.t 39, .c (.pv (.b true)), .t 43] 44,
        iM 45 44,
        iG (.fa 17) [.t 6] 46 45 false,
        iG (.ld 1 false) [.t 46] 47 45 false,
        iG .len [.t 47] 48 45 false,
        iG (.bin .gtr) [.t 48, cI 10] 49 45 false,
        iJ .pick [.t 45, .c (.pv (.b true)), .t 49] 50])
       (.ite (.t 50) (.seq (.ops [iJ .mv [.c (.pv (.b false))] 2])
        .ret)
        .skip))))
      (.ops [iJ (.bin .add) [.t 25, cI 1] 51,
       iM 25 51]))))))))))
   (.ops [iJ (.bin .add) [.t 12, cI 1] 52,
    iM 12 52])))))))
 (.seq (.ops [iJ .mv [.c (.pv (.b true))] 2])
 .ret))))
theorem fn10 : fnOf Try.prog 10 = some (53, [.t 2], ir10) := by kernel_rfl
def ir11 : C :=
 (.seq (.ops [iJ .mv [.c (.pv (.v (.pointer none)))] 2])
 (.seq (.ops [iM 3 0,
  iJ .mx [cI 0, .t 3] 4,
  iJ (.bld [1, 1]) [.c (.pv (.sl true 0 [])), .t 4] 5,
  iJ .box [.t 5] 6,
  iM 2 6])
 .ret))
theorem fn11 : fnOf Try.prog 11 = some (7, [.t 2], ir11) := by kernel_rfl
def ir12 : C :=
 (.seq (.ops [iJ .box [.t 1] 3,
  iJ .mv [cI 0] 4])
 (.seq (.seq (.ops [iM 7 0,
  iJ (.eqv false []) [.t 7] 8])
 (.ite (.t 8) (.seq (.ops [iJ .mv [cI 3] 4])
  .ret)
  .skip))
 (.seq (.ops [iJ (.ld 76 true) [.t 3] 10,
  iJ (.call 29) [.t 10] 11,
  iM 9 11,
  iJ (.ext 0) [.t 9] 12,
  iJ (.ext 1) [.t 9] 13,
  iM 5 12,
  iM 6 13])
 (.seq (.block 0 (.seq (.ops [iM 15 6,
   iJ (.bin .neq) [.t 15, cI 0] 16,
   iM 14 16])
  (.ite (.t 14) (.seq (.ops [iM 17 6,
    iM 4 17])
   .ret)
   (.seq (.any [] [(iM 19 0, 0, []),
    (iJ .nilc [.t 19] 20, 0, []),
    (iJ (.fa 0) [.t 20] 21, 0, []),
    (iJ (.ld 1 false) [.t 21] 22, 1, []),
    (iJ .len [.t 22] 23, 1, []),
    (iM 24 0, 0, []),
    (iJ .nilc [.t 24] 25, 0, []),
    (iJ (.fa 1) [.t 25] 26, 0, []),
    (iJ (.ld 1 false) [.t 26] 27, 1, []),
    (iJ (.bin .geq) [.t 23, .t 27] 28, 0, []),
    (iM 18 28, 0, [])])
   (.ite (.t 18) (.seq (.ops [iJ .mv [cI 5] 4])
    .ret)
    .skip)))))
 (.seq (.ops [iM 29 0,
  iM 30 0,
  iJ .nilc [.t 30] 31,
  iJ (.fa 0) [.t 31] 32,
  iJ (.ld 1 false) [.t 32] 33,
  iJ (.call 30) [.t 33] 34,
  iM 35 5,
  iJ (.bsl 1) [.t 35] 36,
  iJ (.app 1 24) [.t 34, .t 36] 37,
  iJ .nilc [.t 29] 38,
  iJ (.fa 0) [.t 38] 39,
  iO (.sto 1) [.t 39, .t 37]])
 (.seq (.ops [iJ .mv [cI 0] 4])
 .ret))))))
theorem fn12 : fnOf Try.prog 12 = some (40, [.t 4], ir12) := by kernel_rfl
def ir13 : C :=
 (.seq (.ops [iJ .mv [cI 0] 4])
 (.seq (.seq (.ops [iM 7 0,
  iM 8 1,
  iJ (.call 31) [.t 7, .t 8] 9,
  iM 5 9])
 (.seq (.ops [iM 10 5,
  iJ (.bin .neq) [.t 10, cI 0] 11])
 (.ite (.t 11) (.seq (.ops [iM 12 5,
   iM 4 12])
  .ret)
  .skip)))
 (.seq (.ops [iM 13 0,
  iJ .nilc [.t 13] 14,
  iJ (.fa 0) [.t 14] 15,
  iJ (.ld 1 false) [.t 15] 16,
  iM 17 1,
  iJ (.iaS 1) [.t 16, .t 17] 18,
  iJ (.ld 1 false) [.t 18] 19,
  iM 6 19])
 (.seq (.ops [iM 20 0,
  iM 21 0,
  iJ .nilc [.t 21] 22,
  iJ (.fa 0) [.t 22] 23,
  iJ (.ld 1 false) [.t 23] 24,
  iJ (.call 33) [.t 24] 25,
  iM 26 1,
  iM 27 1,
  iJ (.bin .add) [.t 27, cI 1] 28,
  iJ (.call 32) [.t 25, .t 26, .t 28] 29,
  iM 30 6,
  iJ (.bsl 1) [.t 30] 31,
  iJ (.app 1 24) [.t 29, .t 31] 32,
  iJ .nilc [.t 20] 33,
  iJ (.fa 0) [.t 33] 34,
  iO (.sto 1) [.t 34, .t 32]])
 (.seq (.ops [iJ .mv [cI 0] 4])
 .ret)))))
theorem fn13 : fnOf Try.prog 13 = some (35, [.t 4], ir13) := by kernel_rfl
def ir14 : C :=
 (.seq (.ops [iJ (.new (.agg [.pv (.i .i64 0), .pv (.i .i64 0), .pv (.i .i64 0), .vec 8 (List.replicate 8 (.i .u32 0)), .vec 64 (List.replicate 64 (.i .u32 0)), .pv (.sl true 0 [])])) [] 4,
  iJ .mv [cI 0] 5])
 (.seq (.ops [iM 9 0,
  iM 10 1,
  iJ (.call 21) [.t 9, .t 10] 11,
  iM 8 11,
  iJ (.ext 0) [.t 8] 12,
  iJ (.ext 1) [.t 8] 13,
  iJ (.new (.agg [.pv (.i .i64 0), .pv (.i .i64 0), .pv (.i .i64 0), .vec 8 (List.replicate 8 (.i .u32 0)), .vec 64 (List.replicate 64 (.i .u32 0)), .pv (.sl true 0 [])])) [] 6,
  iO (.sto 76) [.t 6, .t 12],
  iM 7 13])
 (.seq (.seq (.ops [iM 14 7,
  iJ (.bin .eql) [.t 14, cI 0] 15])
 (.ite (.t 15) (.ops [iM 16 0,
   iM 17 0,
   iJ .nilc [.t 17] 18,
   iJ (.fa 0) [.t 18] 19,
   iJ (.ld 1 false) [.t 19] 20,
   iJ (.call 33) [.t 20] 21,
   iM 22 1,
   iM 23 1,
   iJ (.bin .add) [.t 23, cI 1] 24,
   iJ (.call 32) [.t 21, .t 22, .t 24] 25,
   iJ .nilc [.t 16] 26,
   iJ (.fa 0) [.t 26] 27,
   iO (.sto 1) [.t 27, .t 25]])
  .skip))
 (.seq (.ops [iJ (.ld 76 true) [.t 6] 28,
  iM 29 7,
  iO (.sto 76) [.t 4, .t 28],
  iM 5 29])
 .ret))))
theorem fn14 : fnOf Try.prog 14 = some (30, [.c 4 76 true, .t 5], ir14) := by kernel_rfl
def ir15 : C :=
 (.seq (.ops [iJ .box [.t 0] 2,
  iJ .box [.t 1] 3,
  iJ .mv [.c (.pv (.b false))] 4])
 (.seq (.ops [iJ (.fa 0) [.t 2] 5,
  iJ (.ld 1 false) [.t 5] 6,
  iJ (.fa 0) [.t 3] 7,
  iJ (.ld 1 false) [.t 7] 8,
  iJ (.bin .eql) [.t 6, .t 8] 9,
  iM 10 9,
  iG (.fa 1) [.t 2] 11 10 true,
  iG (.ld 1 false) [.t 11] 12 10 true,
  iG (.fa 1) [.t 3] 13 10 true,
  iG (.ld 1 false) [.t 13] 14 10 true,
  iG (.bin .eql) [.t 12, .t 14] 15 10 true,
  iJ .pick [.t 10, .t 15, .c (.pv (.b false))] 16,
  iM 17 16,
  iG (.fa 2) [.t 2] 18 17 true,
  iG (.ld 1 false) [.t 18] 19 17 true,
  iG (.fa 2) [.t 3] 20 17 true,
  iG (.ld 1 false) [.t 20] 21 17 true,
  iG (.bin .eql) [.t 19, .t 21] 22 17 true,
  iJ .pick [.t 17, .t 22, .c (.pv (.b false))] 23,
  iM 24 23,
  iG (.fa 3) [.t 2] 25 24 true,
  iG (.ld 8 true) [.t 25] 26 24 true,
  iG (.fa 3) [.t 3] 27 24 true,
  iG (.ld 8 true) [.t 27] 28 24 true,
  iG (.eqv false [.int .u32, .int .u32, .int .u32, .int .u32, .int .u32, .int .u32, .int .u32, .int .u32]) [.t 26, .t 28] 29 24 true,
  iJ .pick [.t 24, .t 29, .c (.pv (.b false))] 30,
  iM 31 30,
  iG (.fa 11) [.t 2] 32 31 true,
  iG (.ld 64 true) [.t 32] 33 31 true,
  iG (.fa 11) [.t 3] 34 31 true,
  iG (.ld 64 true) [.t 34] 35 31 true,
  iG (.eqv false [.int .u32, .int .u32, .int .u32, .int .u32, .int .u32, .int .u32, .int .u32, .int .u32, .int .u32, .int .u32, .int .u32, .int .u32, .int .u32, .int .u32, .int .u32, .int .u32, .int .u32, .int .u32, .int .u32, .int .u32, .int .u32, .int .u32, .int .u32, .int .u32, .int .u32, .int .u32, .int .u32, .int .u32, .int .u32, .int .u32, .int .u32, .int .u32, .int .u32, .int .u32, .int .u32, .int .u32, .int .u32, .int .u32, .int .u32, .int .u32, .int .u32, .int .u32, .int .u32, .int .u32, .int .u32, .int .u32, .int .u32, .int .u32, .int .u32, .int .u32, .int .u32, .int .u32, .int .u32, .int .u32, .int .u32, .int .u32, .int .u32, .int .u32, .int .u32, .int .u32, .int .u32, .int .u32, .int .u32, .int .u32]) [.t 33, .t 35] 36 31 true,
  iJ .pick [.t 31, .t 36, .c (.pv (.b false))] 37,
  iM 38 37,
  iG (.fa 75) [.t 2] 39 38 true,
  iG (.ld 1 false) [.t 39] 40 38 true,
  iG (.fa 75) [.t 3] 41 38 true,
  iG (.ld 1 false) [.t 41] 42 38 true,
  iG (.call 34) [.t 40, .t 42] 43 38 true,
  iJ .pick [.t 38, .t 43, .c (.pv (.b false))] 44,
  iM 4 44])
 .ret))
theorem fn15 : fnOf Try.prog 15 = some (45, [.t 4], ir15) := by kernel_rfl
def ir16 : C :=
 (.seq (.ops [iJ .mv [cI 0] 2])
 (.seq (.seq (.ops [iM 3 0,
  iJ (.eqv false []) [.t 3] 4])
 (.ite (.t 4) (.seq (.ops [iJ .mv [cI 0] 2])
  .ret)
  .skip))
 (.seq (.ops [iM 5 0,
  iJ .nilc [.t 5] 6,
  iJ (.fa 0) [.t 6] 7,
  iJ (.ld 1 false) [.t 7] 8,
  iJ .len [.t 8] 9,
  iM 2 9])
 .ret)))
theorem fn16 : fnOf Try.prog 16 = some (10, [.t 2], ir16) := by kernel_rfl
def ir17 : C :=
 (.seq (.ops [iJ (.new (.agg [.pv (.i .i64 0), .pv (.i .i64 0), .pv (.i .i64 0), .vec 8 (List.replicate 8 (.i .u32 0)), .vec 64 (List.replicate 64 (.i .u32 0)), .pv (.sl true 0 [])])) [] 4])
 (.seq (.ops [iM 5 0,
  iM 6 1,
  iJ (.bld [1, 1, 1, 8, 64, 1]) [cI 1, .t 5, .t 6, .c (.vec 8 (List.replicate 8 (.i .u32 0))), .c (.vec 64 (List.replicate 64 (.i .u32 0))), .c (.pv (.sl true 0 []))] 7,
  iO (.sto 76) [.t 4, .t 7]])
 .ret))
theorem fn17 : fnOf Try.prog 17 = some (8, [.c 4 76 true], ir17) := by kernel_rfl
def ir18 : C :=
 (.seq (.ops [iJ .mv [cI 0] 4])
 (.seq (.ops [iM 8 0,
  iM 9 1,
  iJ (.call 21) [.t 8, .t 9] 10,
  iM 7 10,
  iJ (.ext 0) [.t 7] 11,
  iJ (.ext 1) [.t 7] 12,
  iJ (.new (.agg [.pv (.i .i64 0), .pv (.i .i64 0), .pv (.i .i64 0), .vec 8 (List.replicate 8 (.i .u32 0)), .vec 64 (List.replicate 64 (.i .u32 0)), .pv (.sl true 0 [])])) [] 5,
  iO (.sto 76) [.t 5, .t 11],
  iM 6 12])
 (.seq (.seq (.ops [iM 13 6,
  iJ (.bin .neq) [.t 13, cI 0] 14])
 (.ite (.t 14) (.seq (.ops [iM 15 6,
   iM 4 15])
  .ret)
  .skip))
 (.seq (.ops [iM 16 0,
  iJ (.ld 76 true) [.t 5] 17,
  iJ (.call 12) [.t 16, .t 17] 18,
  iM 4 18])
 .ret))))
theorem fn18 : fnOf Try.prog 18 = some (19, [.t 4], ir18) := by kernel_rfl
def ir19 : C :=
 (.seq (.ops [iJ .box [.t 1] 4,
  iJ .box [.t 2] 5,
  iJ (.new (.agg [.pv (.sl true 0 []), .pv (.i .i64 0)])) [] 6,
  iJ .mv [.c (.pv (.b false))] 7])
 (.seq (.seq (.ops [iJ (.fa 0) [.t 5] 26,
  iJ (.ld 1 false) [.t 26] 27,
  iJ (.cvI .u64) [.t 27] 28,
  iJ (.bin .rem) [.t 28, .c (.pv (.i .u64 7))] 29])
 (.block 0 (.seq (.ops [iJ (.bin .eql) [.t 29, .c (.pv (.i .u64 3))] 31,
   iM 30 31])
  (.ite (.t 30) (.seq (.ops [iM 33 0,
    iJ (.fa 77) [.t 5] 34,
    iJ (.ld 1 false) [.t 34] 35,
    iJ (.call 14) [.t 33, .t 35] 36,
    iM 32 36,
    iJ (.ext 0) [.t 32] 37,
    iJ (.ext 1) [.t 32] 38,
    iJ (.new (.agg [.pv (.i .i64 0), .pv (.i .i64 0), .pv (.i .i64 0), .vec 8 (List.replicate 8 (.i .u32 0)), .vec 64 (List.replicate 64 (.i .u32 0)), .pv (.sl true 0 [])])) [] 8,
    iO (.sto 76) [.t 8, .t 37],
    iM 9 38])
   (.seq (.ops [iJ (.ld 2 true) [.t 4] 40,
    iJ (.fa 77) [.t 5] 41,
    iJ (.ld 1 false) [.t 41] 42,
    iJ (.call 35) [.t 40, .t 42] 43,
    iM 39 43,
    iJ (.ext 0) [.t 39] 44,
    iJ (.ext 1) [.t 39] 45,
    iJ (.ext 2) [.t 39] 46,
    iJ (.new (.agg [.pv (.sl true 0 []), .pv (.i .i64 0)])) [] 10,
    iJ (.new (.agg [.pv (.i .i64 0), .pv (.i .i64 0), .pv (.i .i64 0), .vec 8 (List.replicate 8 (.i .u32 0)), .vec 64 (List.replicate 64 (.i .u32 0)), .pv (.sl true 0 [])])) [] 11,
    iO (.sto 2) [.t 10, .t 44],
    iO (.sto 76) [.t 11, .t 45],
    iM 12 46])
   (.seq (.any [54] [(iJ (.ld 2 true) [.t 10] 47, 1, [54]),
    (iM 48 9, 0, [54]),
    (iM 49 12, 0, [54]),
    (iJ (.bin .eql) [.t 48, .t 49] 50, 0, [54]),
    (iM 51 50, 0, [54]),
    (iG (.ld 76 true) [.t 8] 52 51 true, 1, [54]),
    (iG (.ld 76 true) [.t 11] 53 51 true, 1, [54]),
    (iG (.call 15) [.t 52, .t 53] 54 51 true, 1, [54]),
    (iJ .pick [.t 51, .t 54, .c (.pv (.b false))] 55, 0, []),
    (iO (.sto 2) [.t 6, .t 47], 2, []),
    (iM 7 55, 0, [])])
   .ret)))
   (.seq (.ops [iJ (.bin .eql) [.t 29, .c (.pv (.i .u64 4))] 57,
    iM 56 57])
   (.ite (.t 56) (.seq (.ops [iM 58 0,
     iJ (.fa 77) [.t 5] 59,
     iJ (.ld 1 false) [.t 59] 60,
     iJ (.call 18) [.t 58, .t 60] 61,
     iM 13 61])
    (.seq (.ops [iJ (.ld 2 true) [.t 4] 63,
     iJ (.fa 77) [.t 5] 64,
     iJ (.ld 1 false) [.t 64] 65,
     iJ (.call 36) [.t 63, .t 65] 66,
     iM 62 66,
     iJ (.ext 0) [.t 62] 67,
     iJ (.ext 1) [.t 62] 68,
     iJ (.new (.agg [.pv (.sl true 0 []), .pv (.i .i64 0)])) [] 14,
     iO (.sto 2) [.t 14, .t 67],
     iM 15 68])
    (.seq (.ops [iJ (.ld 2 true) [.t 14] 69,
     iM 70 13,
     iM 71 15,
     iJ (.bin .eql) [.t 70, .t 71] 72,
     iO (.sto 2) [.t 6, .t 69],
     iM 7 72])
    .ret)))
    (.seq (.ops [iJ (.bin .eql) [.t 29, .c (.pv (.i .u64 5))] 74,
     iM 73 74])
    (.ite (.t 73) (.seq (.ops [iM 75 0,
      iJ (.fa 77) [.t 5] 76,
      iJ (.ld 1 false) [.t 76] 77,
      iJ (.call 13) [.t 75, .t 77] 78,
      iM 16 78])
     (.seq (.ops [iJ (.ld 2 true) [.t 4] 80,
      iJ (.fa 77) [.t 5] 81,
      iJ (.ld 1 false) [.t 81] 82,
      iJ (.call 37) [.t 80, .t 82] 83,
      iM 79 83,
      iJ (.ext 0) [.t 79] 84,
      iJ (.ext 1) [.t 79] 85,
      iJ (.new (.agg [.pv (.sl true 0 []), .pv (.i .i64 0)])) [] 17,
      iO (.sto 2) [.t 17, .t 84],
      iM 18 85])
     (.seq (.ops [iJ (.ld 2 true) [.t 17] 86,
      iM 87 16,
      iM 88 18,
      iJ (.bin .eql) [.t 87, .t 88] 89,
      iO (.sto 2) [.t 6, .t 86],
      iM 7 89])
     .ret)))
     (.seq (.ops [iJ (.bin .eql) [.t 29, .c (.pv (.i .u64 6))] 91,
      iM 90 91])
     (.ite (.t 90) (.seq (.ops [iM 93 0,
       iJ (.fa 77) [.t 5] 94,
       iJ (.ld 1 false) [.t 94] 95,
       iJ (.call 21) [.t 93, .t 95] 96,
       iM 92 96,
       iJ (.ext 0) [.t 92] 97,
       iJ (.ext 1) [.t 92] 98,
       iJ (.new (.agg [.pv (.i .i64 0), .pv (.i .i64 0), .pv (.i .i64 0), .vec 8 (List.replicate 8 (.i .u32 0)), .vec 64 (List.replicate 64 (.i .u32 0)), .pv (.sl true 0 [])])) [] 19,
       iO (.sto 76) [.t 19, .t 97],
       iM 20 98])
      (.seq (.ops [iJ (.ld 2 true) [.t 4] 100,
       iJ (.fa 77) [.t 5] 101,
       iJ (.ld 1 false) [.t 101] 102,
       iJ (.call 38) [.t 100, .t 102] 103,
       iM 99 103,
       iJ (.ext 0) [.t 99] 104,
       iJ (.ext 1) [.t 99] 105,
       iJ (.new (.agg [.pv (.i .i64 0), .pv (.i .i64 0), .pv (.i .i64 0), .vec 8 (List.replicate 8 (.i .u32 0)), .vec 64 (List.replicate 64 (.i .u32 0)), .pv (.sl true 0 [])])) [] 21,
       iO (.sto 76) [.t 21, .t 104],
       iM 22 105])
      (.seq (.any [113] [(iJ (.ld 2 true) [.t 4] 106, 1, [113]),
       (iM 107 20, 0, [113]),
       (iM 108 22, 0, [113]),
       (iJ (.bin .eql) [.t 107, .t 108] 109, 0, [113]),
       (iM 110 109, 0, [113]),
       (iG (.ld 76 true) [.t 19] 111 110 true, 1, [113]),
       (iG (.ld 76 true) [.t 21] 112 110 true, 1, [113]),
       (iG (.call 15) [.t 111, .t 112] 113 110 true, 1, [113]),
       (iJ .pick [.t 110, .t 113, .c (.pv (.b false))] 114, 0, []),
       (iO (.sto 2) [.t 6, .t 106], 2, []),
       (iM 7 114, 0, [])])
      .ret)))
      .skip))))))))))
 (.seq (.ops [iM 115 0,
  iJ (.fa 1) [.t 5] 116,
  iJ (.ld 76 true) [.t 116] 117,
  iJ (.call 12) [.t 115, .t 117] 118,
  iM 23 118])
 (.seq (.ops [iJ (.ld 2 true) [.t 4] 120,
  iJ (.fa 1) [.t 5] 121,
  iJ (.ld 76 true) [.t 121] 122,
  iJ (.call 39) [.t 120, .t 122] 123,
  iM 119 123,
  iJ (.ext 0) [.t 119] 124,
  iJ (.ext 1) [.t 119] 125,
  iJ (.new (.agg [.pv (.sl true 0 []), .pv (.i .i64 0)])) [] 24,
  iO (.sto 2) [.t 24, .t 124],
  iM 25 125])
 (.seq (.ops [iJ (.ld 2 true) [.t 24] 126,
  iM 127 23,
  iM 128 25,
  iJ (.bin .eql) [.t 127, .t 128] 129,
  iO (.sto 2) [.t 6, .t 126],
  iM 7 129])
 .ret)))))
theorem fn19 : fnOf Try.prog 19 = some (130, [.c 6 2 true, .t 7], ir19) := by kernel_rfl
def ir20 : C :=
 (.seq (.ops [iJ .box [.t 0] 1,
  iJ .mv [.c (.pv (.v .nilFunc))] 2])
 (.seq (.ops [iJ (.mkf (.func 40)) [.t 1] 3,
  iM 2 3])
 .ret))
theorem fn20 : fnOf Try.prog 20 = some (4, [.t 2], ir20) := by kernel_rfl
def ir21 : C :=
 (.seq (.ops [iJ (.new (.agg [.pv (.i .i64 0), .pv (.i .i64 0), .pv (.i .i64 0), .vec 8 (List.replicate 8 (.i .u32 0)), .vec 64 (List.replicate 64 (.i .u32 0)), .pv (.sl true 0 [])])) [] 4,
  iJ .mv [cI 0] 5])
 (.seq (.seq (.ops [iM 7 0,
  iM 8 1,
  iJ (.call 31) [.t 7, .t 8] 9,
  iM 6 9])
 (.seq (.ops [iM 10 6,
  iJ (.bin .neq) [.t 10, cI 0] 11])
 (.ite (.t 11) (.seq (.ops [iJ (.bld [1, 1, 1, 8, 64, 1]) [cI 0, cI 0, cI 0, .c (.vec 8 (List.replicate 8 (.i .u32 0))), .c (.vec 64 (List.replicate 64 (.i .u32 0))), .c (.pv (.sl true 0 []))] 12,
   iM 13 6,
   iO (.sto 76) [.t 4, .t 12],
   iM 5 13])
  .ret)
  .skip)))
 (.seq (.ops [iM 14 0,
  iJ .nilc [.t 14] 15,
  iJ (.fa 0) [.t 15] 16,
  iJ (.ld 1 false) [.t 16] 17,
  iM 18 1,
  iJ (.iaS 1) [.t 17, .t 18] 19,
  iJ (.ld 1 false) [.t 19] 20,
  iJ (.call 41) [.t 20] 21,
  iJ (.ext 0) [.t 21] 22,
  iJ (.ext 1) [.t 21] 23,
  iO (.sto 76) [.t 4, .t 22],
  iM 5 23])
 .ret)))
theorem fn21 : fnOf Try.prog 21 = some (24, [.c 4 76 true, .t 5], ir21) := by kernel_rfl
def ir24 : C :=
 (.seq (.ops [iJ .mv [.c (.pv (.sl true 0 []))] 2,
  iJ .mv [cI 0] 3])
 (.seq (.ops [iJ (.bsl 1) [] 8,
  iM 4 8])
 (.seq (.seq (.ops [iM 9 0,
  iJ .len [.t 9] 10,
  iJ .mv [cI 0] 11])
 (.block 0 (.loop (.seq (.ops [iJ (.bin .lss) [.t 11, .t 10] 12])
   (.seq (.ite (.t 12) .skip
    (.exit 0))
   (.seq (.block 1 (.seq (.ops [iJ (.iaS 1) [.t 9, .t 11] 13,
     iJ (.ld 1 false) [.t 13] 14,
     iM 6 14])
    (.seq (.seq (.ops [iM 15 6,
     iJ .len [.t 15] 16,
     iM 7 16])
    (.block 2 (.seq (.ops [iM 26 7,
      iJ (.bin .gtr) [.t 26, cI 65535] 27,
      iM 25 27])
     (.ite (.t 25) (.seq (.ops [iJ .mv [.c (.pv (.sl true 0 []))] 2,
       iJ .mv [cI 4] 3])
      .ret)
      (.seq (.ops [iM 29 7,
       iJ (.bin .lss) [.t 29, cI 255] 30,
       iM 28 30])
      (.ite (.t 28) (.ops [iM 31 4,
        iM 32 7,
        iJ (.cvI .u8) [.t 32] 33,
        iJ (.bsl 1) [.t 33] 34,
        iJ (.app 1 1) [.t 31, .t 34] 35,
        iM 4 35])
       (.ops [iM 17 4,
        iM 18 7,
        iJ (.bin .shr) [.t 18, .c (.pv (.i .u64 8))] 19,
        iJ (.cvI .u8) [.t 19] 20,
        iM 21 7,
        iJ (.cvI .u8) [.t 21] 22,
        iJ (.bsl 1) [.c (.pv (.i .u8 255)), .t 20, .t 22] 23,
        iJ (.app 1 1) [.t 17, .t 23] 24,
        iM 4 24])))))))
    (.ops [iM 36 4,
     iM 37 6,
     iJ (.app 1 1) [.t 36, .t 37] 38,
     iM 4 38]))))
   (.ops [iJ (.bin .add) [.t 11, cI 1] 39,
    iM 11 39])))))))
 (.seq (.ops [iM 40 4,
  iM 2 40,
  iJ .mv [cI 0] 3])
 .ret))))
theorem fn24 : fnOf Try.prog 24 = some (41, [.t 2, .t 3], ir24) := by kernel_rfl
def ir27 : C :=
 (.seq (.ops [iJ .box [.t 1] 3,
  iJ (.new (.pv (.sl true 0 []))) [] 4,
  iJ (.new (.pv (.i .i64 0))) [] 5])
 (.seq (.ops [iJ (.new (.pv (.sl true 0 []))) [] 6])
 (.seq (.seq (.ops [iM 9 0,
  iJ (.call 43) [.t 9] 10])
 (.block 0 (.rng (.t 10) [11, 12] (.seq (.ops [iM 7 11])
   (.ops [iM 8 12]))
   (.block 1 (.seq (.seq (.ops [iM 13 8,
     iJ (.bin .neq) [.t 13, cI 0] 14])
    (.ite (.t 14) (.seq (.ops [iM 15 8,
      iO (.sto 1) [.t 4, .c (.pv (.sl true 0 []))],
      iO (.sto 1) [.t 5, .t 15]])
     .ret)
     .skip))
    (.seq (.seq (.ops [iJ (.ld 1 false) [.t 6] 16,
     iJ .len [.t 16] 17,
     iJ (.ld 1 false) [.t 3] 18,
     iJ (.bin .geq) [.t 17, .t 18] 19])
    (.ite (.t 19) (.seq (.ops [iO (.sto 1) [.t 4, .c (.pv (.sl true 0 []))],
      iO (.sto 1) [.t 5, cI 4]])
     .ret)
     .skip))
    (.ops [iJ (.ld 1 false) [.t 6] 20,
     iM 21 7,
     iJ (.bsl 1) [.t 21] 22,
     iJ (.app 1 24) [.t 20, .t 22] 23,
     iO (.sto 1) [.t 6, .t 23]])))))))
 (.seq (.ops [iJ (.ld 1 false) [.t 6] 24,
  iO (.sto 1) [.t 4, .t 24],
  iO (.sto 1) [.t 5, cI 0]])
 .ret))))
theorem fn27 : fnOf Try.prog 27 = some (25, [.c 4 1 false, .c 5 1 false], ir27) := by kernel_rfl
def ir29 : C :=
 (.seq (.ops [iJ .box [.t 0] 1,
  iJ .mv [.c (.pv (.sl true 0 []))] 2,
  iJ .mv [cI 0] 3])
 (.seq (.seq (.ops [iJ (.ld 76 true) [.t 1] 11,
  iJ (.call 44) [.t 11] 12,
  iJ (.un .not) [.t 12] 13])
 (.ite (.t 13) (.seq (.ops [iJ .mv [.c (.pv (.sl true 0 []))] 2,
   iJ .mv [cI 7] 3])
  .ret)
  .skip))
 (.seq (.any [23, 27, 28] [(iJ (.fa 0) [.t 1] 14, 0, [23, 27, 28]),
  (iJ (.ld 1 false) [.t 14] 15, 1, [23, 27, 28]),
  (iJ (.cvI .u8) [.t 15] 16, 0, [23, 27, 28]),
  (iJ (.fa 1) [.t 1] 17, 0, [23, 27, 28]),
  (iJ (.ld 1 false) [.t 17] 18, 1, [23, 27, 28]),
  (iJ (.cvI .u8) [.t 18] 19, 0, [23, 27, 28]),
  (iJ (.fa 2) [.t 1] 20, 0, [23, 27, 28]),
  (iJ (.ld 1 false) [.t 20] 21, 1, [23, 27, 28]),
  (iJ (.cvI .u8) [.t 21] 22, 0, [23, 27, 28]),
  (iJ (.bsl 1) [.t 16, .t 19, .t 22] 23, 1, [23, 27, 28]),
  (iJ (.fa 3) [.t 1] 24, 0, [23, 27, 28]),
  (iJ (.ld 8 true) [.t 24] 25, 1, [23, 27, 28]),
  (iJ (.bldV 8 1) [.c (.pv (.i .u32 0)), .c (.pv (.i .u32 0)), .c (.pv (.i .u32 0)), .c (.pv (.i .u32 0)), .c (.pv (.i .u32 0)), .c (.pv (.i .u32 0)), .c (.pv (.i .u32 0)), .c (.pv (.i .u32 0))] 26, 0, [23, 27, 28]),
  (iJ (.call 45) [.t 25, .t 26] 27, 1, [23, 27, 28]),
  (iJ (.bsl 1) [.t 23, .t 27] 28, 3, [28]),
  (iM 4 28, 0, [])])
 (.seq (.seq (.ops [iJ (.fa 11) [.t 1] 29,
  iJ (.ld 64 true) [.t 29] 30,
  iJ .mv [cI 0] 31])
 (.block 0 (.loop (.seq (.ops [iJ (.bin .lss) [.t 31, cI 8] 32])
   (.seq (.ite (.t 32) .skip
    (.exit 0))
   (.seq (.block 1 (.seq (.ops [iJ (.ixA 8 8 true) [.t 30, .t 31] 33,
     iJ (.new (.vec 8 (List.replicate 8 (.i .u32 0)))) [] 6,
     iO (.sto 8) [.t 6, .t 33]])
    (.ops [iM 34 4,
     iJ (.ld 8 true) [.t 6] 35,
     iJ (.fa 3) [.t 1] 36,
     iJ (.ld 8 true) [.t 36] 37,
     iJ (.call 45) [.t 35, .t 37] 38,
     iJ (.bsl 1) [.t 38] 39,
     iJ (.app 1 24) [.t 34, .t 39] 40,
     iM 4 40])))
   (.ops [iJ (.bin .add) [.t 31, cI 1] 41,
    iM 31 41])))))))
 (.seq (.seq (.ops [iJ (.fa 75) [.t 1] 42,
  iJ (.ld 1 false) [.t 42] 43,
  iJ .len [.t 43] 44,
  iJ .mv [cI 0] 45])
 (.block 2 (.loop (.seq (.ops [iJ (.bin .lss) [.t 45, .t 44] 46])
   (.seq (.ite (.t 46) .skip
    (.exit 2))
   (.seq (.block 3 (.seq (.ops [iJ (.iaS 21) [.t 43, .t 45] 47,
     iJ (.ld 21 true) [.t 47] 48,
     iJ (.new (.agg [.pv (.i .i64 0), .pv (.i .u32 0), .vec 8 (List.replicate 8 (.i .u32 0)), .pv (.i .i64 0), .pv (.i .i64 0), .pv (.i .u32 0), .pv (.i .i64 0), .pv (.i .u32 0), .pv (.s []), .pv (.sl true 0 []), .pv (.sl true 0 []), .pv (.i .i64 0), .pv (.s []), .pv (.i .i64 0)])) [] 8,
     iO (.sto 21) [.t 8, .t 48]])
    (.seq (.ops [iJ (.ld 21 true) [.t 8] 50,
     iJ (.call 46) [.t 50] 51,
     iM 49 51,
     iJ (.ext 0) [.t 49] 52,
     iJ (.ext 1) [.t 49] 53,
     iM 9 52,
     iM 10 53])
    (.seq (.seq (.ops [iM 54 10,
     iJ (.bin .neq) [.t 54, cI 0] 55])
    (.ite (.t 55) (.seq (.ops [iM 56 10,
      iJ .mv [.c (.pv (.sl true 0 []))] 2,
      iM 3 56])
     .ret)
     .skip))
    (.ops [iM 57 4,
     iM 58 9,
     iJ (.bsl 1) [.t 58] 59,
     iJ (.app 1 24) [.t 57, .t 59] 60,
     iM 4 60])))))
   (.ops [iJ (.bin .add) [.t 45, cI 1] 61,
    iM 45 61])))))))
 (.seq (.ops [iM 62 4,
  iJ (.call 24) [.t 62] 63,
  iJ (.ext 0) [.t 63] 64,
  iJ (.ext 1) [.t 63] 65,
  iM 2 64,
  iM 3 65])
 .ret))))))
theorem fn29 : fnOf Try.prog 29 = some (66, [.t 2, .t 3], ir29) := by kernel_rfl
def ir30 : C :=
 (.seq (.ops [iJ .mv [.c (.pv (.sl true 0 []))] 2])
 (.seq (.ops [iM 3 0,
  iM 4 0,
  iJ .len [.t 4] 5,
  iM 6 0,
  iJ .len [.t 6] 7,
  iJ (.slc 1 false true true) [.t 3, .t 5, .t 7] 8,
  iM 2 8])
 .ret))
theorem fn30 : fnOf Try.prog 30 = some (9, [.t 2], ir30) := by kernel_rfl
def ir31 : C :=
 (.seq (.ops [iJ .mv [cI 0] 4])
 (.seq (.block 0 (.seq (.ops [iM 6 0,
   iJ (.eqv false []) [.t 6] 7,
   iM 5 7])
  (.ite (.t 5) (.seq (.ops [iJ .mv [cI 3] 4])
   .ret)
   (.seq (.ops [iM 9 1,
    iJ (.bin .lss) [.t 9, cI 0] 10,
    iM 11 10,
    iG .mv [.t 1] 12 11 false,
    iG .mv [.t 0] 13 11 false,
    iG .nilc [.t 13] 14 11 false,
    iG (.fa 0) [.t 14] 15 11 false,
    iG (.ld 1 false) [.t 15] 16 11 false,
    iG .len [.t 16] 17 11 false,
    iG (.bin .geq) [.t 12, .t 17] 18 11 false,
    iJ .pick [.t 11, .c (.pv (.b true)), .t 18] 19,
    iM 8 19])
   (.ite (.t 8) (.seq (.ops [iJ .mv [cI 2] 4])
    .ret)
    .skip)))))
 (.seq (.ops [iJ .mv [cI 0] 4])
 .ret)))
theorem fn31 : fnOf Try.prog 31 = some (20, [.t 4], ir31) := by kernel_rfl
def ir32 : C :=
 (.seq (.ops [iJ .mv [.c (.pv (.sl true 0 []))] 6])
 (.seq (.ops [iM 8 0,
  iM 9 1,
  iM 10 2,
  iM 11 0,
  iJ .len [.t 11] 12,
  iJ (.slx 1) [.t 8, .t 9, .t 10, .t 12] 13])
 (.seq (.seq (.ops [iM 14 1,
  iM 15 2,
  iJ (.bin .eql) [.t 14, .t 15] 16])
 (.ite (.t 16) (.seq (.ops [iM 17 0,
   iM 6 17])
  .ret)
  .skip))
 (.seq (.ops [iM 18 0,
  iJ .len [.t 18] 19,
  iM 7 19])
 (.seq (.any [26] [(iM 20 0, 0, [26]),
  (iM 21 1, 0, [26]),
  (iJ (.slv 1 false true) [.t 20, .t 21] 22, 1, [26]),
  (iM 23 0, 0, [26]),
  (iM 24 2, 0, [26]),
  (iJ (.slv 1 true false) [.t 23, .t 24] 25, 1, [26]),
  (iJ (.app 1 24) [.t 22, .t 25] 26, 2, [26]),
  (iM 0 26, 0, [])])
 (.seq (.ops [iM 27 0,
  iM 28 0,
  iJ .len [.t 28] 29,
  iM 30 7,
  iJ (.slv 1 true true) [.t 27, .t 29, .t 30] 31,
  iO (.clr 1 [.sl true 0 []]) [.t 31]])
 (.seq (.ops [iM 32 0,
  iM 6 32])
 .ret)))))))
theorem fn32 : fnOf Try.prog 32 = some (33, [.t 6], ir32) := by kernel_rfl
def ir33 : C :=
 (.seq (.ops [iJ .mv [.c (.pv (.sl true 0 []))] 2])
 (.seq (.seq (.ops [iM 3 0,
  iJ (.eqn false) [.t 3] 4])
 (.ite (.t 4) (.seq (.ops [iJ .mv [.c (.pv (.sl true 0 []))] 2])
  .ret)
  .skip))
 (.seq (.ops [iJ (.bsl 1) [] 5,
  iM 6 0,
  iJ (.app 1 24) [.t 5, .t 6] 7,
  iM 2 7])
 .ret)))
theorem fn33 : fnOf Try.prog 33 = some (8, [.t 2], ir33) := by kernel_rfl
def ir34 : C :=
 (.seq (.ops [iJ .mv [.c (.pv (.b false))] 4])
 (.seq (.seq (.ops [iM 6 0,
  iJ .len [.t 6] 7,
  iM 8 1,
  iJ .len [.t 8] 9,
  iJ (.bin .neq) [.t 7, .t 9] 10])
 (.ite (.t 10) (.seq (.ops [iJ .mv [.c (.pv (.b false))] 4])
  .ret)
  .skip))
 (.seq (.seq (.ops [iJ .mv [cI 0] 5])
 (.block 0 (.loop (.seq (.seq (.ops [iM 11 5,
    iM 12 0,
    iJ .len [.t 12] 13,
    iJ (.bin .lss) [.t 11, .t 13] 14])
   (.ite (.t 14) .skip
    (.exit 0)))
   (.seq (.block 1 (.seq (.any [25] [(iM 17 0, 0, [25]),
     (iM 18 5, 0, [25]),
     (iJ (.iaS 21) [.t 17, .t 18] 19, 1, [25]),
     (iJ (.ld 21 true) [.t 19] 20, 1, [25]),
     (iM 21 1, 0, [25]),
     (iM 22 5, 0, [25]),
     (iJ (.iaS 21) [.t 21, .t 22] 23, 1, [25]),
     (iJ (.ld 21 true) [.t 23] 24, 1, [25]),
     (iJ (.call 47) [.t 20, .t 24] 25, 3, [25]),
     (iJ (.un .not) [.t 25] 26, 0, [])])
    (.ite (.t 26) (.seq (.ops [iJ .mv [.c (.pv (.b false))] 4])
     .ret)
     .skip)))
   (.ops [iM 15 5,
    iJ (.bin .add) [.t 15, cI 1] 16,
    iM 5 16]))))))
 (.seq (.ops [iJ .mv [.c (.pv (.b true))] 4])
 .ret))))
theorem fn34 : fnOf Try.prog 34 = some (27, [.t 4], ir34) := by kernel_rfl
def ir35 : C :=
 (.seq (.ops [iJ .box [.t 0] 2,
  iJ (.new (.agg [.pv (.sl true 0 []), .pv (.i .i64 0)])) [] 4,
  iJ (.new (.agg [.pv (.i .i64 0), .pv (.i .i64 0), .pv (.i .i64 0), .vec 8 (List.replicate 8 (.i .u32 0)), .vec 64 (List.replicate 64 (.i .u32 0)), .pv (.sl true 0 [])])) [] 5,
  iJ .mv [cI 0] 6])
 (.seq (.ops [iJ (.ld 2 true) [.t 2] 11,
  iM 12 1,
  iJ (.call 38) [.t 11, .t 12] 13,
  iM 10 13,
  iJ (.ext 0) [.t 10] 14,
  iJ (.ext 1) [.t 10] 15,
  iJ (.new (.agg [.pv (.i .i64 0), .pv (.i .i64 0), .pv (.i .i64 0), .vec 8 (List.replicate 8 (.i .u32 0)), .vec 64 (List.replicate 64 (.i .u32 0)), .pv (.sl true 0 [])])) [] 7,
  iO (.sto 76) [.t 7, .t 14],
  iM 8 15])
 (.seq (.seq (.ops [iM 16 8,
  iJ (.bin .neq) [.t 16, cI 0] 17])
 (.ite (.t 17) (.seq (.anyP [] [(iJ (.ld 2 true) [.t 2] 18, 1, [], [], 0),
   (iJ (.ld 76 true) [.t 7] 19, 1, [], [], 1),
   (iM 20 8, 0, [], [], 2),
   (iO (.sto 2) [.t 4, .t 18], 2, [], [1], 3),
   (iO (.sto 76) [.t 5, .t 19], 2, [], [], 4),
   (iM 6 20, 0, [], [], 5)])
  .ret)
  .skip))
 (.seq (.ops [iJ (.bsl 76) [] 21,
  iJ (.fa 0) [.t 2] 22,
  iJ (.ld 1 false) [.t 22] 23,
  iM 24 1,
  iJ (.slc 76 false true false) [.t 23, .t 24] 25,
  iJ (.app 76 336) [.t 21, .t 25] 26,
  iM 9 26])
 (.seq (.ops [iM 27 9,
  iJ (.fa 0) [.t 2] 28,
  iJ (.ld 1 false) [.t 28] 29,
  iM 30 1,
  iJ (.bin .add) [.t 30, cI 1] 31,
  iJ (.slc 76 true false false) [.t 29, .t 31] 32,
  iJ (.app 76 336) [.t 27, .t 32] 33,
  iJ (.fa 0) [.t 2] 34,
  iO (.sto 1) [.t 34, .t 33]])
 (.seq (.anyP [] [(iJ (.ld 2 true) [.t 2] 35, 1, [], [], 0),
  (iJ (.ld 76 true) [.t 7] 36, 1, [], [], 1),
  (iO (.sto 2) [.t 4, .t 35], 2, [], [1], 2),
  (iO (.sto 76) [.t 5, .t 36], 2, [], [], 3),
  (iJ .mv [cI 0] 6, 0, [], [], 4)])
 .ret))))))
theorem fn35 : fnOf Try.prog 35 = some (37, [.c 4 2 true, .c 5 76 true, .t 6], ir35) := by kernel_rfl
def ir36 : C :=
 (.seq (.ops [iJ .box [.t 0] 2,
  iJ (.new (.agg [.pv (.sl true 0 []), .pv (.i .i64 0)])) [] 4,
  iJ .mv [cI 0] 5])
 (.seq (.ops [iJ (.ld 2 true) [.t 2] 9,
  iM 10 1,
  iJ (.call 38) [.t 9, .t 10] 11,
  iM 8 11,
  iJ (.ext 0) [.t 8] 12,
  iJ (.ext 1) [.t 8] 13,
  iJ (.new (.agg [.pv (.i .i64 0), .pv (.i .i64 0), .pv (.i .i64 0), .vec 8 (List.replicate 8 (.i .u32 0)), .vec 64 (List.replicate 64 (.i .u32 0)), .pv (.sl true 0 [])])) [] 6,
  iO (.sto 76) [.t 6, .t 12],
  iM 7 13])
 (.seq (.seq (.ops [iM 14 7,
  iJ (.bin .neq) [.t 14, cI 0] 15])
 (.ite (.t 15) (.seq (.ops [iJ (.ld 2 true) [.t 2] 16,
   iM 17 7,
   iO (.sto 2) [.t 4, .t 16],
   iM 5 17])
  .ret)
  .skip))
 (.seq (.ops [iJ (.ld 2 true) [.t 2] 18,
  iJ (.ld 76 true) [.t 6] 19,
  iJ (.call 39) [.t 18, .t 19] 20,
  iJ (.ext 0) [.t 20] 21,
  iJ (.ext 1) [.t 20] 22,
  iO (.sto 2) [.t 4, .t 21],
  iM 5 22])
 .ret))))
theorem fn36 : fnOf Try.prog 36 = some (23, [.c 4 2 true, .t 5], ir36) := by kernel_rfl
def ir37 : C :=
 (.seq (.ops [iJ .box [.t 0] 2,
  iJ (.new (.agg [.pv (.sl true 0 []), .pv (.i .i64 0)])) [] 4,
  iJ .mv [cI 0] 5])
 (.seq (.ops [iJ (.ld 2 true) [.t 2] 10,
  iM 11 1,
  iJ (.call 35) [.t 10, .t 11] 12,
  iM 9 12,
  iJ (.ext 0) [.t 9] 13,
  iJ (.ext 1) [.t 9] 14,
  iJ (.ext 2) [.t 9] 15,
  iJ (.new (.agg [.pv (.sl true 0 []), .pv (.i .i64 0)])) [] 6,
  iJ (.new (.agg [.pv (.i .i64 0), .pv (.i .i64 0), .pv (.i .i64 0), .vec 8 (List.replicate 8 (.i .u32 0)), .vec 64 (List.replicate 64 (.i .u32 0)), .pv (.sl true 0 [])])) [] 7,
  iO (.sto 2) [.t 6, .t 13],
  iO (.sto 76) [.t 7, .t 14],
  iM 8 15])
 (.seq (.seq (.ops [iM 16 8,
  iJ (.bin .neq) [.t 16, cI 0] 17])
 (.ite (.t 17) (.seq (.ops [iJ (.ld 2 true) [.t 2] 18,
   iM 19 8,
   iO (.sto 2) [.t 4, .t 18],
   iM 5 19])
  .ret)
  .skip))
 (.seq (.ops [iJ (.fa 0) [.t 6] 20,
  iJ (.ld 1 false) [.t 20] 21,
  iJ (.ld 76 true) [.t 7] 22,
  iJ (.bsl 76) [.t 22] 23,
  iJ (.app 76 336) [.t 21, .t 23] 24,
  iJ (.fa 0) [.t 6] 25,
  iO (.sto 1) [.t 25, .t 24]])
 (.seq (.ops [iJ (.ld 2 true) [.t 6] 26,
  iO (.sto 2) [.t 4, .t 26],
  iJ .mv [cI 0] 5])
 .ret)))))
theorem fn37 : fnOf Try.prog 37 = some (27, [.c 4 2 true, .t 5], ir37) := by kernel_rfl
def ir38 : C :=
 (.seq (.ops [iJ .box [.t 0] 2,
  iJ (.new (.agg [.pv (.i .i64 0), .pv (.i .i64 0), .pv (.i .i64 0), .vec 8 (List.replicate 8 (.i .u32 0)), .vec 64 (List.replicate 64 (.i .u32 0)), .pv (.sl true 0 [])])) [] 4,
  iJ .mv [cI 0] 5])
 (.seq (.seq (.ops [iM 6 1,
  iJ (.bin .lss) [.t 6, cI 0] 7,
  iM 8 7,
  iG .mv [.t 1] 9 8 false,
  iG (.fa 0) [.t 2] 10 8 false,
  iG (.ld 1 false) [.t 10] 11 8 false,
  iG .len [.t 11] 12 8 false,
  iG (.bin .geq) [.t 9, .t 12] 13 8 false,
  iJ .pick [.t 8, .c (.pv (.b true)), .t 13] 14])
 (.ite (.t 14) (.seq (.ops [iJ (.bld [1, 1, 1, 8, 64, 1]) [cI 0, cI 0, cI 0, .c (.vec 8 (List.replicate 8 (.i .u32 0))), .c (.vec 64 (List.replicate 64 (.i .u32 0))), .c (.pv (.sl true 0 []))] 15,
   iO (.sto 76) [.t 4, .t 15],
   iJ .mv [cI 2] 5])
  .ret)
  .skip))
 (.seq (.ops [iJ (.fa 0) [.t 2] 16,
  iJ (.ld 1 false) [.t 16] 17,
  iM 18 1,
  iJ (.iaS 76) [.t 17, .t 18] 19,
  iJ (.ld 76 true) [.t 19] 20,
  iO (.sto 76) [.t 4, .t 20],
  iJ .mv [cI 0] 5])
 .ret)))
theorem fn38 : fnOf Try.prog 38 = some (21, [.c 4 76 true, .t 5], ir38) := by kernel_rfl
def ir39 : C :=
 (.seq (.ops [iJ .box [.t 0] 2,
  iJ .box [.t 1] 3,
  iJ (.new (.agg [.pv (.sl true 0 []), .pv (.i .i64 0)])) [] 4,
  iJ .mv [cI 0] 5])
 (.seq (.seq (.ops [iJ (.ld 76 true) [.t 3] 7,
  iJ (.call 48) [.t 7] 8,
  iJ (.un .not) [.t 8] 9])
 (.ite (.t 9) (.seq (.ops [iJ (.ld 2 true) [.t 2] 10,
   iO (.sto 2) [.t 4, .t 10],
   iJ .mv [cI 7] 5])
  .ret)
  .skip))
 (.seq (.seq (.ops [iJ (.fa 0) [.t 2] 11,
  iJ (.ld 1 false) [.t 11] 12,
  iJ .len [.t 12] 13,
  iJ (.fa 1) [.t 2] 14,
  iJ (.ld 1 false) [.t 14] 15,
  iJ (.bin .geq) [.t 13, .t 15] 16])
 (.ite (.t 16) (.seq (.ops [iJ (.ld 2 true) [.t 2] 17,
   iO (.sto 2) [.t 4, .t 17],
   iJ .mv [cI 5] 5])
  .ret)
  .skip))
 (.seq (.ops [iJ (.bsl 76) [] 18,
  iJ (.fa 0) [.t 2] 19,
  iJ (.ld 1 false) [.t 19] 20,
  iJ (.app 76 336) [.t 18, .t 20] 21,
  iM 6 21])
 (.seq (.ops [iM 22 6,
  iJ (.ld 76 true) [.t 3] 23,
  iJ (.bsl 76) [.t 23] 24,
  iJ (.app 76 336) [.t 22, .t 24] 25,
  iJ (.fa 0) [.t 2] 26,
  iO (.sto 1) [.t 26, .t 25]])
 (.seq (.ops [iJ (.ld 2 true) [.t 2] 27,
  iO (.sto 2) [.t 4, .t 27],
  iJ .mv [cI 0] 5])
 .ret))))))
theorem fn39 : fnOf Try.prog 39 = some (28, [.c 4 2 true, .t 5], ir39) := by kernel_rfl
def ir40 : C :=
 (.seq (.seq (.ops [iJ (.ld 1 false) [.t 1] 7,
  iJ (.eqv false []) [.t 7] 8])
 (.ite (.t 8) .ret
  .skip))
 (.seq (.ops [iJ (.ld 1 false) [.t 1] 9,
  iJ .nilc [.t 9] 10,
  iJ (.fa 0) [.t 10] 11,
  iJ (.ld 1 false) [.t 11] 12,
  iJ (.call 33) [.t 12] 13,
  iJ .len [.t 13] 14,
  iJ .mv [cI 0] 15])
 (.block 0 (.loop (.seq (.ops [iJ (.bin .lss) [.t 15, .t 14] 16])
   (.seq (.ite (.t 16) .skip
    (.exit 0))
   (.seq (.block 1 (.seq (.ops [iM 17 15,
     iJ (.iaS 1) [.t 13, .t 15] 18,
     iJ (.ld 1 false) [.t 18] 19,
     iM 3 17,
     iM 4 19])
    (.seq (.ops [iM 21 4,
     iJ (.call 41) [.t 21] 22,
     iM 20 22,
     iJ (.ext 0) [.t 20] 23,
     iJ (.ext 1) [.t 20] 24,
     iJ (.new (.agg [.pv (.i .i64 0), .pv (.i .i64 0), .pv (.i .i64 0), .vec 8 (List.replicate 8 (.i .u32 0)), .vec 64 (List.replicate 64 (.i .u32 0)), .pv (.sl true 0 [])])) [] 5,
     iO (.sto 76) [.t 5, .t 23],
     iM 6 24])
    (.seq (.ops [iM 25 6,
     iJ (.bin .eql) [.t 25, cI 0] 26,
     iM 27 26,
     iG .mv [.t 0] 28 27 true,
     iG .mv [.t 3] 29 27 true,
     iG (.ld 76 true) [.t 5] 30 27 true,
     iG .yv [.t 28, .t 29, .t 30] 31 27 true,
     iG (.un .not) [.t 31] 32 27 true,
     iJ .pick [.t 27, .t 32, .c (.pv (.b false))] 33])
    (.ite (.t 33) .ret
     .skip)))))
   (.ops [iJ (.bin .add) [.t 15, cI 1] 34,
    iM 15 34]))))))))
theorem fn40 : fnOf Try.prog 40 = some (35, [], ir40) := by kernel_rfl
def ir41 : C :=
 (.seq (.ops [iJ (.new (.agg [.pv (.i .i64 0), .pv (.i .i64 0), .pv (.i .i64 0), .vec 8 (List.replicate 8 (.i .u32 0)), .vec 64 (List.replicate 64 (.i .u32 0)), .pv (.sl true 0 [])])) [] 2,
  iJ .mv [cI 0] 3])
 (.seq (.ops [iM 15 0,
  iJ (.call 27) [.t 15, cI 18] 16,
  iM 14 16,
  iJ (.ext 0) [.t 14] 17,
  iJ (.ext 1) [.t 14] 18,
  iM 4 17,
  iM 5 18])
 (.seq (.seq (.ops [iM 19 5,
  iJ (.bin .neq) [.t 19, cI 0] 20])
 (.ite (.t 20) (.seq (.ops [iJ (.bld [1, 1, 1, 8, 64, 1]) [cI 0, cI 0, cI 0, .c (.vec 8 (List.replicate 8 (.i .u32 0))), .c (.vec 64 (List.replicate 64 (.i .u32 0))), .c (.pv (.sl true 0 []))] 21,
   iM 22 5,
   iO (.sto 76) [.t 2, .t 21],
   iM 3 22])
  .ret)
  .skip))
 (.seq (.seq (.ops [iM 23 4,
  iJ .len [.t 23] 24,
  iJ (.bin .lss) [.t 24, cI 10] 25,
  iM 26 25,
  iG .mv [.t 4] 27 26 false,
  iG (.iaS 1) [.t 27, cI 0] 28 26 false,
  iG (.ld 1 false) [.t 28] 29 26 false,
  iG .len [.t 29] 30 26 false,
  iG (.bin .neq) [.t 30, cI 3] 31 26 false,
  iJ .pick [.t 26, .c (.pv (.b true)), .t 31] 32])
 (.ite (.t 32) (.seq (.ops [iJ (.bld [1, 1, 1, 8, 64, 1]) [cI 0, cI 0, cI 0, .c (.vec 8 (List.replicate 8 (.i .u32 0))), .c (.vec 64 (List.replicate 64 (.i .u32 0))), .c (.pv (.sl true 0 []))] 33,
   iO (.sto 76) [.t 2, .t 33],
   iJ .mv [cI 7] 3])
  .ret)
  .skip))
 (.seq (.any [6] [(iM 34 4, 0, [6]),
  (iJ (.iaS 1) [.t 34, cI 0] 35, 1, [6]),
  (iJ (.ld 1 false) [.t 35] 36, 1, [6]),
  (iJ (.iaS 1) [.t 36, cI 0] 37, 1, [6]),
  (iJ (.ld 1 false) [.t 37] 38, 1, [6]),
  (iJ (.cvI .i64) [.t 38] 39, 0, [6]),
  (iM 40 4, 0, [6]),
  (iJ (.iaS 1) [.t 40, cI 0] 41, 1, [6]),
  (iJ (.ld 1 false) [.t 41] 42, 1, [6]),
  (iJ (.iaS 1) [.t 42, cI 1] 43, 1, [6]),
  (iJ (.ld 1 false) [.t 43] 44, 1, [6]),
  (iJ (.cvI .i64) [.t 44] 45, 0, [6]),
  (iM 46 4, 0, [6]),
  (iJ (.iaS 1) [.t 46, cI 0] 47, 1, [6]),
  (iJ (.ld 1 false) [.t 47] 48, 1, [6]),
  (iJ (.iaS 1) [.t 48, cI 2] 49, 1, [6]),
  (iJ (.ld 1 false) [.t 49] 50, 1, [6]),
  (iJ (.cvI .i64) [.t 50] 51, 0, [6]),
  (iJ (.bld [1, 1, 1, 8, 64, 1]) [.t 39, .t 45, .t 51, .c (.vec 8 (List.replicate 8 (.i .u32 0))), .c (.vec 64 (List.replicate 64 (.i .u32 0))), .c (.pv (.sl true 0 []))] 52, 0, [6]),
  (iJ (.new (.agg [.pv (.i .i64 0), .pv (.i .i64 0), .pv (.i .i64 0), .vec 8 (List.replicate 8 (.i .u32 0)), .vec 64 (List.replicate 64 (.i .u32 0)), .pv (.sl true 0 [])])) [] 6, 1, [6]),
  (iO (.sto 76) [.t 6, .t 52], 2, [])])
 (.seq (.seq (.ops [iM 54 4,
  iJ (.iaS 1) [.t 54, cI 1] 55,
  iJ (.ld 1 false) [.t 55] 56,
  iJ (.bldV 8 1) [.c (.pv (.i .u32 0)), .c (.pv (.i .u32 0)), .c (.pv (.i .u32 0)), .c (.pv (.i .u32 0)), .c (.pv (.i .u32 0)), .c (.pv (.i .u32 0)), .c (.pv (.i .u32 0)), .c (.pv (.i .u32 0))] 57,
  iJ (.call 49) [.t 56, .t 57] 58,
  iM 53 58,
  iJ (.ext 0) [.t 53] 59,
  iJ (.ext 1) [.t 53] 60,
  iJ (.fa 3) [.t 6] 61,
  iO (.sto 8) [.t 61, .t 59],
  iM 5 60])
 (.seq (.ops [iM 62 5,
  iJ (.bin .neq) [.t 62, cI 0] 63])
 (.ite (.t 63) (.seq (.ops [iJ (.bld [1, 1, 1, 8, 64, 1]) [cI 0, cI 0, cI 0, .c (.vec 8 (List.replicate 8 (.i .u32 0))), .c (.vec 64 (List.replicate 64 (.i .u32 0))), .c (.pv (.sl true 0 []))] 64,
   iO (.sto 76) [.t 2, .t 64],
   iJ .mv [cI 7] 3])
  .ret)
  .skip)))
 (.seq (.seq (.ops [iJ .mv [cI 0] 65])
 (.block 0 (.loop (.seq (.ops [iJ (.bin .lss) [.t 65, cI 8] 66])
   (.seq (.ite (.t 66) .skip
    (.exit 0))
   (.seq (.block 1 (.seq (.ops [iM 67 65,
     iM 7 67])
    (.seq (.any [77] [(iM 69 7, 0, [77]),
     (iM 70 4, 0, [77]),
     (iM 71 7, 0, [77]),
     (iJ (.bin .add) [cI 2, .t 71] 72, 0, [77]),
     (iJ (.iaS 1) [.t 70, .t 72] 73, 1, [77]),
     (iJ (.ld 1 false) [.t 73] 74, 1, [77]),
     (iJ (.fa 3) [.t 6] 75, 0, [77]),
     (iJ (.ld 8 true) [.t 75] 76, 1, [77]),
     (iJ (.call 49) [.t 74, .t 76] 77, 1, [77]),
     (iM 68 77, 0, []),
     (iJ (.ext 0) [.t 68] 78, 0, [77]),
     (iJ (.ext 1) [.t 68] 79, 0, [77]),
     (iJ (.fa 11) [.t 6] 80, 0, [77]),
     (iJ (.iaA 8 8) [.t 80, .t 69] 81, 0, []),
     (iO (.sto 8) [.t 81, .t 78], 2, []),
     (iM 5 79, 0, [])])
    (.seq (.ops [iM 82 5,
     iJ (.bin .neq) [.t 82, cI 0] 83])
    (.ite (.t 83) (.seq (.ops [iJ (.bld [1, 1, 1, 8, 64, 1]) [cI 0, cI 0, cI 0, .c (.vec 8 (List.replicate 8 (.i .u32 0))), .c (.vec 64 (List.replicate 64 (.i .u32 0))), .c (.pv (.sl true 0 []))] 84,
      iO (.sto 76) [.t 2, .t 84],
      iJ .mv [cI 7] 3])
     .ret)
     .skip)))))
   (.ops [iJ (.bin .add) [.t 65, cI 1] 85,
    iM 65 85])))))))
 (.seq (.seq (.ops [iM 86 4,
  iJ (.slc 1 true false false) [.t 86, cI 10] 87,
  iJ .len [.t 87] 88,
  iJ .mv [cI 0] 89])
 (.block 2 (.loop (.seq (.ops [iJ (.bin .lss) [.t 89, .t 88] 90])
   (.seq (.ite (.t 90) .skip
    (.exit 2))
   (.seq (.block 3 (.seq (.ops [iJ (.iaS 1) [.t 87, .t 89] 91,
     iJ (.ld 1 false) [.t 91] 92,
     iM 9 92])
    (.seq (.ops [iM 94 9,
     iJ (.call 50) [.t 94] 95,
     iM 93 95,
     iJ (.ext 0) [.t 93] 96,
     iJ (.ext 1) [.t 93] 97,
     iJ (.new (.agg [.pv (.i .i64 0), .pv (.i .u32 0), .vec 8 (List.replicate 8 (.i .u32 0)), .pv (.i .i64 0), .pv (.i .i64 0), .pv (.i .u32 0), .pv (.i .i64 0), .pv (.i .u32 0), .pv (.s []), .pv (.sl true 0 []), .pv (.sl true 0 []), .pv (.i .i64 0), .pv (.s []), .pv (.i .i64 0)])) [] 10,
     iO (.sto 21) [.t 10, .t 96],
     iM 11 97])
    (.seq (.seq (.ops [iM 98 11,
     iJ (.bin .neq) [.t 98, cI 0] 99])
    (.ite (.t 99) (.seq (.ops [iJ (.bld [1, 1, 1, 8, 64, 1]) [cI 0, cI 0, cI 0, .c (.vec 8 (List.replicate 8 (.i .u32 0))), .c (.vec 64 (List.replicate 64 (.i .u32 0))), .c (.pv (.sl true 0 []))] 100,
      iO (.sto 76) [.t 2, .t 100],
      iJ .mv [cI 7] 3])
     .ret)
     .skip))
    (.ops [iJ (.fa 75) [.t 6] 101,
     iJ (.ld 1 false) [.t 101] 102,
     iJ (.ld 21 true) [.t 10] 103,
     iJ (.bsl 21) [.t 103] 104,
     iJ (.app 21 184) [.t 102, .t 104] 105,
     iJ (.fa 75) [.t 6] 106,
     iO (.sto 1) [.t 106, .t 105]])))))
   (.ops [iJ (.bin .add) [.t 89, cI 1] 107,
    iM 89 107])))))))
 (.seq (.seq (.ops [iJ (.ld 76 true) [.t 6] 109,
  iJ (.call 29) [.t 109] 110,
  iM 108 110,
  iJ (.ext 0) [.t 108] 111,
  iJ (.ext 1) [.t 108] 112,
  iM 12 111,
  iM 13 112])
 (.seq (.ops [iM 113 13,
  iJ (.bin .neq) [.t 113, cI 0] 114,
  iM 115 114,
  iG .mv [.t 12] 116 115 false,
  iG .mv [.t 0] 117 115 false,
  iG (.call 51) [.t 116, .t 117] 118 115 false,
  iG (.un .not) [.t 118] 119 115 false,
  iJ .pick [.t 115, .c (.pv (.b true)), .t 119] 120])
 (.ite (.t 120) (.seq (.ops [iJ (.bld [1, 1, 1, 8, 64, 1]) [cI 0, cI 0, cI 0, .c (.vec 8 (List.replicate 8 (.i .u32 0))), .c (.vec 64 (List.replicate 64 (.i .u32 0))), .c (.pv (.sl true 0 []))] 121,
   iO (.sto 76) [.t 2, .t 121],
   iJ .mv [cI 7] 3])
  .ret)
  .skip)))
 (.seq (.ops [iJ (.ld 76 true) [.t 6] 122,
  iO (.sto 76) [.t 2, .t 122],
  iJ .mv [cI 0] 3])
 .ret))))))))))
theorem fn41 : fnOf Try.prog 41 = some (123, [.c 2 76 true, .t 3], ir41) := by kernel_rfl
def ir43 : C :=
 (.seq (.ops [iJ .mv [.c (.pv (.v .nilFunc))] 2])
 (.seq (.ops [iJ (.bsl 1) [] 4,
  iM 5 0,
  iJ (.app 1 1) [.t 4, .t 5] 6,
  iJ (.new (.pv (.sl true 0 []))) [] 3,
  iO (.sto 1) [.t 3, .t 6]])
 (.seq (.ops [iJ (.mkf (.func 52)) [.t 3] 7,
  iM 2 7])
 .ret)))
theorem fn43 : fnOf Try.prog 43 = some (8, [.t 2], ir43) := by kernel_rfl
def ir44 : C :=
 (.seq (.ops [iJ .box [.t 0] 1,
  iJ .mv [.c (.pv (.b false))] 2])
 (.seq (.ops [iJ .mv [.c (.fn (.func 54) [])] 3])
 (.seq (.seq (.ops [iJ (.fa 0) [.t 1] 4,
  iJ (.ld 1 false) [.t 4] 5,
  iJ (.bin .neq) [.t 5, cI 1] 6,
  iM 7 6,
  iG (.fa 0) [.t 1] 8 7 true,
  iG (.ld 1 false) [.t 8] 9 7 true,
  iG (.bin .neq) [.t 9, cI 2] 10 7 true,
  iJ .pick [.t 7, .t 10, .c (.pv (.b false))] 11,
  iM 12 11,
  iG .mv [.t 3] 13 12 false,
  iG (.fa 1) [.t 1] 14 12 false,
  iG (.ld 1 false) [.t 14] 15 12 false,
  iG .yv [.t 13, .t 15] 16 12 false,
  iG (.un .not) [.t 16] 17 12 false,
  iJ .pick [.t 12, .c (.pv (.b true)), .t 17] 18,
  iM 19 18,
  iG .mv [.t 3] 20 19 false,
  iG (.fa 2) [.t 1] 21 19 false,
  iG (.ld 1 false) [.t 21] 22 19 false,
  iG .yv [.t 20, .t 22] 23 19 false,
  iG (.un .not) [.t 23] 24 19 false,
  iJ .pick [.t 19, .c (.pv (.b true)), .t 24] 25,
  iM 26 25,
  iG (.fa 1) [.t 1] 27 26 false,
  iG (.ld 1 false) [.t 27] 28 26 false,
  iG (.fa 2) [.t 1] 29 26 false,
  iG (.ld 1 false) [.t 29] 30 26 false,
  iG (.bin .eql) [.t 28, .t 30] 31 26 false,
  iJ .pick [.t 26, .c (.pv (.b true)), .t 31] 32,
  iM 33 32,
  iG (.fa 75) [.t 1] 34 33 false,
  iG (.ld 1 false) [.t 34] 35 33 false,
  iG .len [.t 35] 36 33 false,
  iG (.bin .gtr) [.t 36, cI 8] 37 33 false,
  iJ .pick [.t 33, .c (.pv (.b true)), .t 37] 38,
  iM 39 38,
  iG (.fa 0) [.t 1] 40 39 false,
  iG (.ld 1 false) [.t 40] 41 39 false,
  iG (.bin .eql) [.t 41, cI 1] 42 39 false,
  iG .mv [.t 42] 43 39 false,
  iG (.fa 75) [.t 1] 44 43 true,
  iG (.ld 1 false) [.t 44] 45 43 true,
  iG .len [.t 45] 46 43 true,
  iG (.bin .gtr) [.t 46, cI 0] 47 43 true,
  iG .pick [.t 43, .t 47, .c (.pv (.b false))] 48 39 false,
  iJ .pick [.t 39, .c (.pv (.b true)), .t 48] 49])
 (.ite (.t 49) (.seq (.ops [iJ .mv [.c (.pv (.b false))] 2])
  .ret)
  .skip))
 (.seq (.ops [iJ (.fa 75) [.t 1] 50,
  iJ (.ld 1 false) [.t 50] 51,
  iJ (.call 55) [.t 51, .c (.fn (.func 56) [])] 52,
  iJ (.un .not) [.t 52] 53,
  iM 2 53])
 .ret))))
theorem fn44 : fnOf Try.prog 44 = some (54, [.t 2], ir44) := by kernel_rfl
def ir45 : C :=
 (.seq (.ops [iJ .box [.t 0] 2,
  iJ .box [.t 1] 3,
  iJ .mv [.c (.pv (.sl true 0 []))] 4])
 (.seq (.ops [iJ .mv [.c (.pv (.i .u8 0))] 5,
  iJ .mv [.c (.pv (.i .u8 0))] 6])
 (.seq (.ops [iJ .mv [.c (.pv (.sl true 0 []))] 7])
 (.seq (.seq (.ops [iJ (.ld 8 true) [.t 2] 10,
  iJ .mv [cI 0] 11])
 (.block 0 (.loop (.seq (.ops [iJ (.bin .lss) [.t 11, cI 8] 12])
   (.seq (.ite (.t 12) .skip
    (.exit 0))
   (.seq (.block 1 (.seq (.ops [iM 13 11,
     iJ (.ixA 8 1 false) [.t 10, .t 11] 14,
     iM 8 13,
     iM 9 14])
    (.block 2 (.seq (.ops [iM 16 9,
      iM 17 8,
      iJ (.iaA 8 1) [.t 3, .t 17] 18,
      iJ (.ld 1 false) [.t 18] 19,
      iJ (.bin .gtr) [.t 16, .t 19] 20,
      iM 15 20])
     (.ite (.t 15) (.seq (.ops [iM 21 5,
       iM 22 8,
       iJ (.bin .shl) [.c (.pv (.i .u8 1)), .t 22] 23,
       iJ (.bin .or) [.t 21, .t 23] 24,
       iM 5 24])
      (.ops [iM 25 7,
       iM 26 9,
       iM 27 8,
       iJ (.iaA 8 1) [.t 3, .t 27] 28,
       iJ (.ld 1 false) [.t 28] 29,
       iJ (.bin .sub) [.t 26, .t 29] 30,
       iJ (.call 58) [.t 30] 31,
       iJ (.app 1 1) [.t 25, .t 31] 32,
       iM 7 32]))
      (.seq (.ops [iM 34 9,
       iM 35 8,
       iJ (.iaA 8 1) [.t 3, .t 35] 36,
       iJ (.ld 1 false) [.t 36] 37,
       iJ (.bin .lss) [.t 34, .t 37] 38,
       iM 33 38])
      (.ite (.t 33) (.seq (.ops [iM 39 6,
        iM 40 8,
        iJ (.bin .shl) [.c (.pv (.i .u8 1)), .t 40] 41,
        iJ (.bin .or) [.t 39, .t 41] 42,
        iM 6 42])
       (.ops [iM 43 7,
        iM 44 8,
        iJ (.iaA 8 1) [.t 3, .t 44] 45,
        iJ (.ld 1 false) [.t 45] 46,
        iM 47 9,
        iJ (.bin .sub) [.t 46, .t 47] 48,
        iJ (.call 58) [.t 48] 49,
        iJ (.app 1 1) [.t 43, .t 49] 50,
        iM 7 50]))
       .skip)))))))
   (.ops [iJ (.bin .add) [.t 11, cI 1] 51,
    iM 11 51])))))))
 (.seq (.ops [iM 52 5,
  iM 53 6,
  iJ (.bsl 1) [.t 52, .t 53] 54,
  iM 55 7,
  iJ (.app 1 1) [.t 54, .t 55] 56,
  iM 4 56])
 .ret)))))
theorem fn45 : fnOf Try.prog 45 = some (57, [.t 4], ir45) := by kernel_rfl
def ir46 : C :=
 (.seq (.ops [iJ .box [.t 0] 1,
  iJ .mv [.c (.pv (.sl true 0 []))] 2,
  iJ .mv [cI 0] 3])
 (.seq (.seq (.ops [iJ (.ld 21 true) [.t 1] 4,
  iJ (.call 57) [.t 4] 5,
  iJ (.un .not) [.t 5] 6])
 (.ite (.t 6) (.seq (.ops [iJ .mv [.c (.pv (.sl true 0 []))] 2,
   iJ .mv [cI 7] 3])
  .ret)
  .skip))
 (.seq (.any [11, 16, 20, 24, 27, 30, 33, 36, 39, 43, 46, 50, 51, 52] [(iJ (.fa 0) [.t 1] 7, 0, [11, 16, 20, 24, 27, 30, 33, 36, 39, 43, 46, 50, 51, 52]),
  (iJ (.fa 0) [.t 7] 8, 0, [11, 16, 20, 24, 27, 30, 33, 36, 39, 43, 46, 50, 51, 52]),
  (iJ (.ld 1 false) [.t 8] 9, 1, [11, 16, 20, 24, 27, 30, 33, 36, 39, 43, 46, 50, 51, 52]),
  (iJ (.cvI .u64) [.t 9] 10, 0, [11, 16, 20, 24, 27, 30, 33, 36, 39, 43, 46, 50, 51, 52]),
  (iJ (.call 59) [.t 10] 11, 1, [11, 16, 20, 24, 27, 30, 33, 36, 39, 43, 46, 50, 51, 52]),
  (iJ (.fa 0) [.t 1] 12, 0, [11, 16, 20, 24, 27, 30, 33, 36, 39, 43, 46, 50, 51, 52]),
  (iJ (.fa 1) [.t 12] 13, 0, [11, 16, 20, 24, 27, 30, 33, 36, 39, 43, 46, 50, 51, 52]),
  (iJ (.ld 1 false) [.t 13] 14, 1, [11, 16, 20, 24, 27, 30, 33, 36, 39, 43, 46, 50, 51, 52]),
  (iJ (.cvI .u64) [.t 14] 15, 0, [11, 16, 20, 24, 27, 30, 33, 36, 39, 43, 46, 50, 51, 52]),
  (iJ (.call 59) [.t 15] 16, 1, [16, 20, 24, 27, 30, 33, 36, 39, 43, 46, 50, 51, 52]),
  (iJ (.fa 2) [.t 1] 17, 0, [11, 16, 20, 24, 27, 30, 33, 36, 39, 43, 46, 50, 51, 52]),
  (iJ (.ld 8 true) [.t 17] 18, 1, [11, 16, 20, 24, 27, 30, 33, 36, 39, 43, 46, 50, 51, 52]),
  (iJ (.bldV 8 1) [.c (.pv (.i .u32 0)), .c (.pv (.i .u32 0)), .c (.pv (.i .u32 0)), .c (.pv (.i .u32 0)), .c (.pv (.i .u32 0)), .c (.pv (.i .u32 0)), .c (.pv (.i .u32 0)), .c (.pv (.i .u32 0))] 19, 0, [11, 16, 20, 24, 27, 30, 33, 36, 39, 43, 46, 50, 51, 52]),
  (iJ (.call 45) [.t 18, .t 19] 20, 1, [11, 20, 24, 27, 30, 33, 36, 39, 43, 46, 50, 51, 52]),
  (iJ (.fa 10) [.t 1] 21, 0, [11, 16, 20, 24, 27, 30, 33, 36, 39, 43, 46, 50, 51, 52]),
  (iJ (.ld 1 false) [.t 21] 22, 1, [11, 16, 20, 24, 27, 30, 33, 36, 39, 43, 46, 50, 51, 52]),
  (iJ (.cvI .u64) [.t 22] 23, 0, [11, 16, 20, 24, 27, 30, 33, 36, 39, 43, 46, 50, 51, 52]),
  (iJ (.call 59) [.t 23] 24, 1, [11, 16, 24, 27, 30, 33, 36, 39, 43, 46, 50, 51, 52]),
  (iJ (.fa 11) [.t 1] 25, 0, [11, 16, 20, 24, 27, 30, 33, 36, 39, 43, 46, 50, 51, 52]),
  (iJ (.ld 2 true) [.t 25] 26, 1, [11, 16, 20, 24, 27, 30, 33, 36, 39, 43, 46, 50, 51, 52]),
  (iJ (.call 60) [.t 26] 27, 1, [11, 16, 20, 27, 30, 33, 36, 39, 43, 46, 50, 51, 52]),
  (iJ (.fa 13) [.t 1] 28, 0, [11, 16, 20, 24, 27, 30, 33, 36, 39, 43, 46, 50, 51, 52]),
  (iJ (.ld 2 true) [.t 28] 29, 1, [11, 16, 20, 24, 27, 30, 33, 36, 39, 43, 46, 50, 51, 52]),
  (iJ (.call 60) [.t 29] 30, 1, [11, 16, 20, 24, 30, 33, 36, 39, 43, 46, 50, 51, 52]),
  (iJ (.fa 15) [.t 1] 31, 0, [11, 16, 20, 24, 27, 30, 33, 36, 39, 43, 46, 50, 51, 52]),
  (iJ (.ld 1 false) [.t 31] 32, 1, [11, 16, 20, 24, 27, 30, 33, 36, 39, 43, 46, 50, 51, 52]),
  (iJ .s2b [.t 32] 33, 1, [11, 16, 20, 24, 27, 30, 33, 36, 39, 43, 46, 50, 51, 52]),
  (iJ (.fa 16) [.t 1] 34, 0, [11, 16, 20, 24, 27, 30, 33, 36, 39, 43, 46, 50, 51, 52]),
  (iJ (.ld 1 false) [.t 34] 35, 1, [11, 16, 20, 24, 27, 30, 33, 36, 39, 43, 46, 50, 51, 52]),
  (iJ (.call 61) [.t 35] 36, 1, [11, 16, 20, 24, 27, 33, 36, 39, 43, 46, 50, 51, 52]),
  (iJ (.fa 17) [.t 1] 37, 0, [11, 16, 20, 24, 27, 30, 33, 36, 39, 43, 46, 50, 51, 52]),
  (iJ (.ld 1 false) [.t 37] 38, 1, [11, 16, 20, 24, 27, 30, 33, 36, 39, 43, 46, 50, 51, 52]),
  (iJ (.call 61) [.t 38] 39, 1, [11, 16, 20, 24, 27, 30, 33, 39, 43, 46, 50, 51, 52]),
  (iJ (.fa 18) [.t 1] 40, 0, [11, 16, 20, 24, 27, 30, 33, 36, 39, 43, 46, 50, 51, 52]),
  (iJ (.ld 1 false) [.t 40] 41, 1, [11, 16, 20, 24, 27, 30, 33, 36, 39, 43, 46, 50, 51, 52]),
  (iJ (.cvI .u64) [.t 41] 42, 0, [11, 16, 20, 24, 27, 30, 33, 36, 39, 43, 46, 50, 51, 52]),
  (iJ (.call 59) [.t 42] 43, 1, [11, 16, 20, 24, 27, 30, 33, 36, 43, 46, 50, 51, 52]),
  (iJ (.fa 19) [.t 1] 44, 0, [11, 16, 20, 24, 27, 30, 33, 36, 39, 43, 46, 50, 51, 52]),
  (iJ (.ld 1 false) [.t 44] 45, 1, [11, 16, 20, 24, 27, 30, 33, 36, 39, 43, 46, 50, 51, 52]),
  (iJ .s2b [.t 45] 46, 1, [11, 16, 20, 24, 27, 30, 33, 36, 39, 43, 46, 50, 51, 52]),
  (iJ (.fa 20) [.t 1] 47, 0, [11, 16, 20, 24, 27, 30, 33, 36, 39, 43, 46, 50, 51, 52]),
  (iJ (.ld 1 false) [.t 47] 48, 1, [11, 16, 20, 24, 27, 30, 33, 36, 39, 43, 46, 50, 51, 52]),
  (iJ (.cvI .u64) [.t 48] 49, 0, [11, 16, 20, 24, 27, 30, 33, 36, 39, 43, 46, 50, 51, 52]),
  (iJ (.call 59) [.t 49] 50, 1, [11, 16, 20, 24, 27, 30, 33, 36, 39, 46, 50, 51, 52]),
  (iJ (.bsl 1) [.t 11, .t 16, .t 20, .t 24, .t 27, .t 30, .t 33, .t 36, .t 39, .t 43, .t 46, .t 50] 51, 3, [51, 52]),
  (iJ (.call 24) [.t 51] 52, 3, [11, 16, 20, 24, 27, 30, 33, 36, 39, 43, 46, 52]),
  (iJ (.ext 0) [.t 52] 53, 0, [11, 16, 20, 24, 27, 30, 33, 36, 39, 43, 46, 50, 51]),
  (iJ (.ext 1) [.t 52] 54, 0, [11, 16, 20, 24, 27, 30, 33, 36, 39, 43, 46, 50, 51]),
  (iM 2 53, 0, []),
  (iM 3 54, 0, [])])
 .ret)))
theorem fn46 : fnOf Try.prog 46 = some (55, [.t 2, .t 3], ir46) := by kernel_rfl
def ir47 : C :=
 (.seq (.ops [iJ .box [.t 0] 2,
  iJ .box [.t 1] 3,
  iJ .mv [.c (.pv (.b false))] 4])
 (.seq (.ops [iJ (.fa 0) [.t 2] 5,
  iJ (.ld 2 true) [.t 5] 6,
  iJ (.fa 0) [.t 3] 7,
  iJ (.ld 2 true) [.t 7] 8,
  iJ (.eqv false [.int .i64, .int .u32]) [.t 6, .t 8] 9,
  iM 10 9,
  iG (.fa 2) [.t 2] 11 10 true,
  iG (.ld 8 true) [.t 11] 12 10 true,
  iG (.fa 2) [.t 3] 13 10 true,
  iG (.ld 8 true) [.t 13] 14 10 true,
  iG (.eqv false [.int .u32, .int .u32, .int .u32, .int .u32, .int .u32, .int .u32, .int .u32, .int .u32]) [.t 12, .t 14] 15 10 true,
  iJ .pick [.t 10, .t 15, .c (.pv (.b false))] 16,
  iM 17 16,
  iG (.fa 10) [.t 2] 18 17 true,
  iG (.ld 1 false) [.t 18] 19 17 true,
  iG (.fa 10) [.t 3] 20 17 true,
  iG (.ld 1 false) [.t 20] 21 17 true,
  iG (.bin .eql) [.t 19, .t 21] 22 17 true,
  iJ .pick [.t 17, .t 22, .c (.pv (.b false))] 23,
  iM 24 23,
  iG (.fa 11) [.t 2] 25 24 true,
  iG (.ld 2 true) [.t 25] 26 24 true,
  iG (.fa 11) [.t 3] 27 24 true,
  iG (.ld 2 true) [.t 27] 28 24 true,
  iG (.eqv false [.int .i64, .int .u32]) [.t 26, .t 28] 29 24 true,
  iJ .pick [.t 24, .t 29, .c (.pv (.b false))] 30,
  iM 31 30,
  iG (.fa 13) [.t 2] 32 31 true,
  iG (.ld 2 true) [.t 32] 33 31 true,
  iG (.fa 13) [.t 3] 34 31 true,
  iG (.ld 2 true) [.t 34] 35 31 true,
  iG (.eqv false [.int .i64, .int .u32]) [.t 33, .t 35] 36 31 true,
  iJ .pick [.t 31, .t 36, .c (.pv (.b false))] 37,
  iM 38 37,
  iG (.fa 15) [.t 2] 39 38 true,
  iG (.ld 1 false) [.t 39] 40 38 true,
  iG (.fa 15) [.t 3] 41 38 true,
  iG (.ld 1 false) [.t 41] 42 38 true,
  iG (.bin .eql) [.t 40, .t 42] 43 38 true,
  iJ .pick [.t 38, .t 43, .c (.pv (.b false))] 44,
  iM 45 44,
  iG (.fa 16) [.t 2] 46 45 true,
  iG (.ld 1 false) [.t 46] 47 45 true,
  iG (.fa 16) [.t 3] 48 45 true,
  iG (.ld 1 false) [.t 48] 49 45 true,
  iG (.call 62) [.t 47, .t 49] 50 45 true,
  iJ .pick [.t 45, .t 50, .c (.pv (.b false))] 51,
  iM 52 51,
  iG (.fa 17) [.t 2] 53 52 true,
  iG (.ld 1 false) [.t 53] 54 52 true,
  iG (.fa 17) [.t 3] 55 52 true,
  iG (.ld 1 false) [.t 55] 56 52 true,
  iG (.call 62) [.t 54, .t 56] 57 52 true,
  iJ .pick [.t 52, .t 57, .c (.pv (.b false))] 58,
  iM 59 58,
  iG (.fa 18) [.t 2] 60 59 true,
  iG (.ld 1 false) [.t 60] 61 59 true,
  iG (.fa 18) [.t 3] 62 59 true,
  iG (.ld 1 false) [.t 62] 63 59 true,
  iG (.bin .eql) [.t 61, .t 63] 64 59 true,
  iJ .pick [.t 59, .t 64, .c (.pv (.b false))] 65,
  iM 66 65,
  iG (.fa 19) [.t 2] 67 66 true,
  iG (.ld 1 false) [.t 67] 68 66 true,
  iG (.fa 19) [.t 3] 69 66 true,
  iG (.ld 1 false) [.t 69] 70 66 true,
  iG (.bin .eql) [.t 68, .t 70] 71 66 true,
  iJ .pick [.t 66, .t 71, .c (.pv (.b false))] 72,
  iM 73 72,
  iG (.fa 20) [.t 2] 74 73 true,
  iG (.ld 1 false) [.t 74] 75 73 true,
  iG (.fa 20) [.t 3] 76 73 true,
  iG (.ld 1 false) [.t 76] 77 73 true,
  iG (.bin .eql) [.t 75, .t 77] 78 73 true,
  iJ .pick [.t 73, .t 78, .c (.pv (.b false))] 79,
  iM 4 79])
 .ret))
theorem fn47 : fnOf Try.prog 47 = some (80, [.t 4], ir47) := by kernel_rfl
def ir48 : C :=
 (.seq (.ops [iJ .box [.t 0] 1,
  iJ .mv [.c (.pv (.b false))] 2])
 (.seq (.seq (.ops [iJ (.fa 0) [.t 1] 4,
  iJ (.ld 1 false) [.t 4] 5,
  iJ (.bin .lss) [.t 5, cI 1] 6,
  iM 7 6,
  iG (.fa 0) [.t 1] 8 7 false,
  iG (.ld 1 false) [.t 8] 9 7 false,
  iG (.bin .gtr) [.t 9, cI 2] 10 7 false,
  iJ .pick [.t 7, .c (.pv (.b true)), .t 10] 11,
  iM 12 11,
  iG (.fa 1) [.t 1] 13 12 false,
  iG (.ld 1 false) [.t 13] 14 12 false,
  iG (.bin .lss) [.t 14, cI 1] 15 12 false,
  iJ .pick [.t 12, .c (.pv (.b true)), .t 15] 16,
  iM 17 16,
  iG (.fa 1) [.t 1] 18 17 false,
  iG (.ld 1 false) [.t 18] 19 17 false,
  iG (.bin .gtr) [.t 19, cI 8] 20 17 false,
  iJ .pick [.t 17, .c (.pv (.b true)), .t 20] 21,
  iM 22 21,
  iG (.fa 2) [.t 1] 23 22 false,
  iG (.ld 1 false) [.t 23] 24 22 false,
  iG (.bin .lss) [.t 24, cI 1] 25 22 false,
  iJ .pick [.t 22, .c (.pv (.b true)), .t 25] 26,
  iM 27 26,
  iG (.fa 2) [.t 1] 28 27 false,
  iG (.ld 1 false) [.t 28] 29 27 false,
  iG (.bin .gtr) [.t 29, cI 8] 30 27 false,
  iJ .pick [.t 27, .c (.pv (.b true)), .t 30] 31,
  iM 32 31,
  iG (.fa 1) [.t 1] 33 32 false,
  iG (.ld 1 false) [.t 33] 34 32 false,
  iG (.fa 2) [.t 1] 35 32 false,
  iG (.ld 1 false) [.t 35] 36 32 false,
  iG (.bin .eql) [.t 34, .t 36] 37 32 false,
  iJ .pick [.t 32, .c (.pv (.b true)), .t 37] 38,
  iM 39 38,
  iG (.fa 75) [.t 1] 40 39 false,
  iG (.ld 1 false) [.t 40] 41 39 false,
  iG .len [.t 41] 42 39 false,
  iG (.bin .gtr) [.t 42, cI 8] 43 39 false,
  iJ .pick [.t 39, .c (.pv (.b true)), .t 43] 44,
  iM 45 44,
  iG (.fa 0) [.t 1] 46 45 false,
  iG (.ld 1 false) [.t 46] 47 45 false,
  iG (.bin .eql) [.t 47, cI 1] 48 45 false,
  iG .mv [.t 48] 49 45 false,
  iG (.fa 75) [.t 1] 50 49 true,
  iG (.ld 1 false) [.t 50] 51 49 true,
  iG .len [.t 51] 52 49 true,
  iG (.bin .gtr) [.t 52, cI 0] 53 49 true,
  iG .pick [.t 49, .t 53, .c (.pv (.b false))] 54 45 false,
  iJ .pick [.t 45, .c (.pv (.b true)), .t 54] 55])
 (.ite (.t 55) (.seq (.ops [iJ .mv [.c (.pv (.b false))] 2])
  .ret)
  .skip))
 (.seq (.seq (.ops [iJ .mv [cI 0] 3])
 (.block 0 (.loop (.seq (.seq (.ops [iM 56 3,
    iJ (.fa 75) [.t 1] 57,
    iJ (.ld 1 false) [.t 57] 58,
    iJ .len [.t 58] 59,
    iJ (.bin .lss) [.t 56, .t 59] 60])
   (.ite (.t 60) .skip
    (.exit 0)))
   (.seq (.block 1 (.seq (.ops [iJ (.fa 75) [.t 1] 63,
     iJ (.ld 1 false) [.t 63] 64,
     iM 65 3,
     iJ (.iaS 21) [.t 64, .t 65] 66,
     iJ (.ld 21 true) [.t 66] 67,
     iJ (.call 63) [.t 67] 68,
     iJ (.un .not) [.t 68] 69])
    (.ite (.t 69) (.seq (.ops [iJ .mv [.c (.pv (.b false))] 2])
     .ret)
     .skip)))
   (.ops [iM 61 3,
    iJ (.bin .add) [.t 61, cI 1] 62,
    iM 3 62]))))))
 (.seq (.ops [iJ .mv [.c (.pv (.b true))] 2])
 .ret))))
theorem fn48 : fnOf Try.prog 48 = some (70, [.t 2], ir48) := by kernel_rfl
def ir49 : C :=
 (.seq (.ops [iJ .box [.t 1] 3,
  iJ (.new (.vec 8 (List.replicate 8 (.i .u32 0)))) [] 4,
  iJ .mv [cI 0] 5])
 (.seq (.ops [iM 13 0,
  iJ (.call 64) [.t 13] 14,
  iM 12 14,
  iJ (.ext 0) [.t 12] 15,
  iJ (.ext 1) [.t 12] 16,
  iJ (.new (.vec 8 (List.replicate 8 (.i .i64 0)))) [] 6,
  iO (.sto 8) [.t 6, .t 15],
  iM 7 16])
 (.seq (.seq (.ops [iM 17 7,
  iJ (.bin .neq) [.t 17, cI 0] 18])
 (.ite (.t 18) (.seq (.ops [iJ (.bldV 8 1) [.c (.pv (.i .u32 0)), .c (.pv (.i .u32 0)), .c (.pv (.i .u32 0)), .c (.pv (.i .u32 0)), .c (.pv (.i .u32 0)), .c (.pv (.i .u32 0)), .c (.pv (.i .u32 0)), .c (.pv (.i .u32 0))] 19,
   iM 20 7,
   iO (.sto 8) [.t 4, .t 19],
   iM 5 20])
  .ret)
  .skip))
 (.seq (.ops [iJ (.new (.vec 8 (List.replicate 8 (.i .u32 0)))) [] 8])
 (.seq (.seq (.ops [iJ (.ld 8 true) [.t 6] 21,
  iJ .mv [cI 0] 22])
 (.block 0 (.loop (.seq (.ops [iJ (.bin .lss) [.t 22, cI 8] 23])
   (.seq (.ite (.t 23) .skip
    (.exit 0))
   (.seq (.block 1 (.seq (.ops [iM 24 22,
     iJ (.ixA 8 1 false) [.t 21, .t 22] 25,
     iM 9 24,
     iM 10 25])
    (.seq (.ops [iM 26 9,
     iJ (.iaA 8 1) [.t 3, .t 26] 27,
     iJ (.ld 1 false) [.t 27] 28,
     iJ (.cvI .i64) [.t 28] 29,
     iM 30 10,
     iJ (.bin .add) [.t 29, .t 30] 31,
     iM 11 31])
    (.seq (.seq (.ops [iM 32 11,
     iJ (.bin .lss) [.t 32, cI 0] 33,
     iM 34 33,
     iG .mv [.t 11] 35 34 false,
     iG (.bin .gtr) [.t 35, cI 4294967295] 36 34 false,
     iJ .pick [.t 34, .c (.pv (.b true)), .t 36] 37])
    (.ite (.t 37) (.seq (.ops [iJ (.bldV 8 1) [.c (.pv (.i .u32 0)), .c (.pv (.i .u32 0)), .c (.pv (.i .u32 0)), .c (.pv (.i .u32 0)), .c (.pv (.i .u32 0)), .c (.pv (.i .u32 0)), .c (.pv (.i .u32 0)), .c (.pv (.i .u32 0))] 38,
      iO (.sto 8) [.t 4, .t 38],
      iJ .mv [cI 7] 5])
     .ret)
     .skip))
    (.ops [iM 39 9,
     iM 40 11,
     iJ (.cvI .u32) [.t 40] 41,
     iJ (.iaA 8 1) [.t 8, .t 39] 42,
     iO (.sto 1) [.t 42, .t 41]])))))
   (.ops [iJ (.bin .add) [.t 22, cI 1] 43,
    iM 22 43])))))))
 (.seq (.ops [iJ (.ld 8 true) [.t 8] 44,
  iO (.sto 8) [.t 4, .t 44],
  iJ .mv [cI 0] 5])
 .ret))))))
theorem fn49 : fnOf Try.prog 49 = some (45, [.c 4 8 true, .t 5], ir49) := by kernel_rfl
def ir50 : C :=
 (.seq (.ops [iJ (.new (.agg [.pv (.i .i64 0), .pv (.i .u32 0), .vec 8 (List.replicate 8 (.i .u32 0)), .pv (.i .i64 0), .pv (.i .i64 0), .pv (.i .u32 0), .pv (.i .i64 0), .pv (.i .u32 0), .pv (.s []), .pv (.sl true 0 []), .pv (.sl true 0 []), .pv (.i .i64 0), .pv (.s []), .pv (.i .i64 0)])) [] 2,
  iJ .mv [cI 0] 3])
 (.seq (.ops [iM 13 0,
  iJ (.call 27) [.t 13, cI 12] 14,
  iM 12 14,
  iJ (.ext 0) [.t 12] 15,
  iJ (.ext 1) [.t 12] 16,
  iM 4 15,
  iM 5 16])
 (.seq (.seq (.ops [iM 17 5,
  iJ (.bin .neq) [.t 17, cI 0] 18])
 (.ite (.t 18) (.seq (.ops [iJ (.bld [2, 8, 1, 2, 2, 1, 1, 1, 1, 1, 1]) [.c (.agg [.pv (.i .i64 0), .pv (.i .u32 0)]), .c (.vec 8 (List.replicate 8 (.i .u32 0))), cI 0, .c (.agg [.pv (.i .i64 0), .pv (.i .u32 0)]), .c (.agg [.pv (.i .i64 0), .pv (.i .u32 0)]), .c (.pv (.s [])), .c (.pv (.sl true 0 [])), .c (.pv (.sl true 0 [])), cI 0, .c (.pv (.s [])), cI 0] 19,
   iM 20 5,
   iO (.sto 21) [.t 2, .t 19],
   iM 3 20])
  .ret)
  .skip))
 (.seq (.seq (.ops [iM 21 4,
  iJ .len [.t 21] 22,
  iJ (.bin .neq) [.t 22, cI 12] 23])
 (.ite (.t 23) (.seq (.ops [iJ (.bld [2, 8, 1, 2, 2, 1, 1, 1, 1, 1, 1]) [.c (.agg [.pv (.i .i64 0), .pv (.i .u32 0)]), .c (.vec 8 (List.replicate 8 (.i .u32 0))), cI 0, .c (.agg [.pv (.i .i64 0), .pv (.i .u32 0)]), .c (.agg [.pv (.i .i64 0), .pv (.i .u32 0)]), .c (.pv (.s [])), .c (.pv (.sl true 0 [])), .c (.pv (.sl true 0 [])), cI 0, .c (.pv (.s [])), cI 0] 24,
   iO (.sto 21) [.t 2, .t 24],
   iJ .mv [cI 8] 3])
  .ret)
  .skip))
 (.seq (.any [28, 32, 36, 44, 52, 6] [(iM 25 4, 0, [28, 32, 36, 44, 52, 6]),
  (iJ (.iaS 1) [.t 25, cI 3] 26, 1, [28, 32, 36, 44, 52, 6]),
  (iJ (.ld 1 false) [.t 26] 27, 1, [28, 32, 36, 44, 52, 6]),
  (iJ (.call 65) [.t 27] 28, 1, [28, 32, 36, 44, 52, 6]),
  (iM 29 4, 0, [28, 32, 36, 44, 52, 6]),
  (iJ (.iaS 1) [.t 29, cI 4] 30, 1, [28, 32, 36, 44, 52, 6]),
  (iJ (.ld 1 false) [.t 30] 31, 1, [28, 32, 36, 44, 52, 6]),
  (iJ (.call 66) [.t 31] 32, 1, [32, 36, 44, 52, 6]),
  (iM 33 4, 0, [28, 32, 36, 44, 52, 6]),
  (iJ (.iaS 1) [.t 33, cI 5] 34, 1, [28, 32, 36, 44, 52, 6]),
  (iJ (.ld 1 false) [.t 34] 35, 1, [28, 32, 36, 44, 52, 6]),
  (iJ (.call 66) [.t 35] 36, 1, [28, 36, 44, 52, 6]),
  (iM 37 4, 0, [28, 32, 36, 44, 52, 6]),
  (iJ (.iaS 1) [.t 37, cI 6] 38, 1, [28, 32, 36, 44, 52, 6]),
  (iJ (.ld 1 false) [.t 38] 39, 1, [28, 32, 36, 44, 52, 6]),
  (iJ .b2s [.t 39] 40, 1, [28, 32, 36, 44, 52, 6]),
  (iM 41 4, 0, [28, 32, 36, 44, 52, 6]),
  (iJ (.iaS 1) [.t 41, cI 9] 42, 1, [28, 32, 36, 44, 52, 6]),
  (iJ (.ld 1 false) [.t 42] 43, 1, [28, 32, 36, 44, 52, 6]),
  (iJ (.call 65) [.t 43] 44, 1, [28, 32, 44, 52, 6]),
  (iM 45 4, 0, [28, 32, 36, 44, 52, 6]),
  (iJ (.iaS 1) [.t 45, cI 10] 46, 1, [28, 32, 36, 44, 52, 6]),
  (iJ (.ld 1 false) [.t 46] 47, 1, [28, 32, 36, 44, 52, 6]),
  (iJ .b2s [.t 47] 48, 1, [28, 32, 36, 44, 52, 6]),
  (iM 49 4, 0, [28, 32, 36, 44, 52, 6]),
  (iJ (.iaS 1) [.t 49, cI 11] 50, 1, [28, 32, 36, 44, 52, 6]),
  (iJ (.ld 1 false) [.t 50] 51, 1, [28, 32, 36, 44, 52, 6]),
  (iJ (.call 65) [.t 51] 52, 1, [28, 32, 36, 52, 6]),
  (iJ (.bld [2, 8, 1, 2, 2, 1, 1, 1, 1, 1, 1]) [.c (.agg [.pv (.i .i64 0), .pv (.i .u32 0)]), .c (.vec 8 (List.replicate 8 (.i .u32 0))), .t 28, .t 32, .t 36, .t 40, .c (.pv (.sl true 0 [])), .c (.pv (.sl true 0 [])), .t 44, .t 48, .t 52] 53, 0, [6]),
  (iJ (.new (.agg [.pv (.i .i64 0), .pv (.i .u32 0), .vec 8 (List.replicate 8 (.i .u32 0)), .pv (.i .i64 0), .pv (.i .i64 0), .pv (.i .u32 0), .pv (.i .i64 0), .pv (.i .u32 0), .pv (.s []), .pv (.sl true 0 []), .pv (.sl true 0 []), .pv (.i .i64 0), .pv (.s []), .pv (.i .i64 0)])) [] 6, 1, [28, 32, 36, 44, 52, 6]),
  (iO (.sto 21) [.t 6, .t 53], 2, [])])
 (.seq (.any [57, 61] [(iM 54 4, 0, [57, 61]),
  (iJ (.iaS 1) [.t 54, cI 0] 55, 1, [57, 61]),
  (iJ (.ld 1 false) [.t 55] 56, 1, [57, 61]),
  (iJ (.call 65) [.t 56] 57, 1, [57, 61]),
  (iM 58 4, 0, [57, 61]),
  (iJ (.iaS 1) [.t 58, cI 1] 59, 1, [57, 61]),
  (iJ (.ld 1 false) [.t 59] 60, 1, [57, 61]),
  (iJ (.call 65) [.t 60] 61, 3, [61]),
  (iJ .mx [cI 0, .t 61] 62, 0, [57]),
  (iJ (.cvI .u32) [.t 62] 63, 0, [57, 61]),
  (iJ (.bld [1, 1]) [.t 57, .t 63] 64, 0, [61]),
  (iJ (.fa 0) [.t 6] 65, 0, []),
  (iO (.sto 2) [.t 65, .t 64], 2, [])])
 (.seq (.ops [iJ .mv [cI 0] 7,
  iJ .mv [cI 0] 8,
  iJ .mv [cI 0] 9])
 (.seq (.ops [iM 67 4,
  iJ (.iaS 1) [.t 67, cI 2] 68,
  iJ (.ld 1 false) [.t 68] 69,
  iJ (.bldV 8 1) [.c (.pv (.i .u32 0)), .c (.pv (.i .u32 0)), .c (.pv (.i .u32 0)), .c (.pv (.i .u32 0)), .c (.pv (.i .u32 0)), .c (.pv (.i .u32 0)), .c (.pv (.i .u32 0)), .c (.pv (.i .u32 0))] 70,
  iJ (.call 49) [.t 69, .t 70] 71,
  iM 66 71,
  iJ (.ext 0) [.t 66] 72,
  iJ (.ext 1) [.t 66] 73,
  iJ (.fa 2) [.t 6] 74,
  iO (.sto 8) [.t 74, .t 72],
  iM 7 73])
 (.seq (.ops [iM 76 4,
  iJ (.iaS 1) [.t 76, cI 7] 77,
  iJ (.ld 1 false) [.t 77] 78,
  iJ (.call 67) [.t 78, cI 8] 79,
  iM 75 79,
  iJ (.ext 0) [.t 75] 80,
  iJ (.ext 1) [.t 75] 81,
  iJ (.fa 16) [.t 6] 82,
  iO (.sto 1) [.t 82, .t 80],
  iM 8 81])
 (.seq (.ops [iM 84 4,
  iJ (.iaS 1) [.t 84, cI 8] 85,
  iJ (.ld 1 false) [.t 85] 86,
  iJ (.call 67) [.t 86, cI 8] 87,
  iM 83 87,
  iJ (.ext 0) [.t 83] 88,
  iJ (.ext 1) [.t 83] 89,
  iJ (.fa 17) [.t 6] 90,
  iO (.sto 1) [.t 90, .t 88],
  iM 9 89])
 (.seq (.seq (.ops [iM 91 7,
  iJ (.bin .neq) [.t 91, cI 0] 92,
  iM 93 92,
  iG .mv [.t 8] 94 93 false,
  iG (.bin .neq) [.t 94, cI 0] 95 93 false,
  iJ .pick [.t 93, .c (.pv (.b true)), .t 95] 96,
  iM 97 96,
  iG .mv [.t 9] 98 97 false,
  iG (.bin .neq) [.t 98, cI 0] 99 97 false,
  iJ .pick [.t 97, .c (.pv (.b true)), .t 99] 100])
 (.ite (.t 100) (.seq (.ops [iJ (.bld [2, 8, 1, 2, 2, 1, 1, 1, 1, 1, 1]) [.c (.agg [.pv (.i .i64 0), .pv (.i .u32 0)]), .c (.vec 8 (List.replicate 8 (.i .u32 0))), cI 0, .c (.agg [.pv (.i .i64 0), .pv (.i .u32 0)]), .c (.agg [.pv (.i .i64 0), .pv (.i .u32 0)]), .c (.pv (.s [])), .c (.pv (.sl true 0 [])), .c (.pv (.sl true 0 [])), cI 0, .c (.pv (.s [])), cI 0] 101,
   iO (.sto 21) [.t 2, .t 101],
   iJ .mv [cI 7] 3])
  .ret)
  .skip))
 (.seq (.seq (.ops [iJ (.ld 21 true) [.t 6] 103,
  iJ (.call 46) [.t 103] 104,
  iM 102 104,
  iJ (.ext 0) [.t 102] 105,
  iJ (.ext 1) [.t 102] 106,
  iM 10 105,
  iM 11 106])
 (.seq (.ops [iM 107 11,
  iJ (.bin .neq) [.t 107, cI 0] 108,
  iM 109 108,
  iG .mv [.t 10] 110 109 false,
  iG .mv [.t 0] 111 109 false,
  iG (.call 51) [.t 110, .t 111] 112 109 false,
  iG (.un .not) [.t 112] 113 109 false,
  iJ .pick [.t 109, .c (.pv (.b true)), .t 113] 114])
 (.ite (.t 114) (.seq (.ops [iJ (.bld [2, 8, 1, 2, 2, 1, 1, 1, 1, 1, 1]) [.c (.agg [.pv (.i .i64 0), .pv (.i .u32 0)]), .c (.vec 8 (List.replicate 8 (.i .u32 0))), cI 0, .c (.agg [.pv (.i .i64 0), .pv (.i .u32 0)]), .c (.agg [.pv (.i .i64 0), .pv (.i .u32 0)]), .c (.pv (.s [])), .c (.pv (.sl true 0 [])), .c (.pv (.sl true 0 [])), cI 0, .c (.pv (.s [])), cI 0] 115,
   iO (.sto 21) [.t 2, .t 115],
   iJ .mv [cI 7] 3])
  .ret)
  .skip)))
 (.seq (.ops [iJ (.ld 21 true) [.t 6] 116,
  iO (.sto 21) [.t 2, .t 116],
  iJ .mv [cI 0] 3])
 .ret)))))))))))))
theorem fn50 : fnOf Try.prog 50 = some (117, [.c 2 21 true, .t 3], ir50) := by kernel_rfl
def ir51 : C :=
 (.seq (.ops [iJ .mv [.c (.pv (.b false))] 4])
 (.seq (.seq (.ops [iM 6 0,
  iJ .len [.t 6] 7,
  iM 8 1,
  iJ .len [.t 8] 9,
  iJ (.bin .neq) [.t 7, .t 9] 10])
 (.ite (.t 10) (.seq (.ops [iJ .mv [.c (.pv (.b false))] 4])
  .ret)
  .skip))
 (.seq (.seq (.ops [iM 11 0,
  iJ .len [.t 11] 12,
  iJ .mv [cI 0] 13])
 (.block 0 (.loop (.seq (.ops [iJ (.bin .lss) [.t 13, .t 12] 14])
   (.seq (.ite (.t 14) .skip
    (.exit 0))
   (.seq (.block 1 (.seq (.ops [iM 15 13,
     iM 5 15])
    (.seq (.any [] [(iM 16 0, 0, []),
     (iM 17 5, 0, []),
     (iJ (.iaS 1) [.t 16, .t 17] 18, 1, []),
     (iJ (.ld 1 false) [.t 18] 19, 1, []),
     (iM 20 1, 0, []),
     (iM 21 5, 0, []),
     (iJ (.iaS 1) [.t 20, .t 21] 22, 1, []),
     (iJ (.ld 1 false) [.t 22] 23, 1, []),
     (iJ (.bin .neq) [.t 19, .t 23] 24, 0, [])])
    (.ite (.t 24) (.seq (.ops [iJ .mv [.c (.pv (.b false))] 4])
     .ret)
     .skip))))
   (.ops [iJ (.bin .add) [.t 13, cI 1] 25,
    iM 13 25])))))))
 (.seq (.ops [iJ .mv [.c (.pv (.b true))] 4])
 .ret))))
theorem fn51 : fnOf Try.prog 51 = some (26, [.t 4], ir51) := by kernel_rfl
def ir52 : C :=
 (.seq (.ops [iJ (.ld 1 false) [.t 1] 7,
  iM 3 7])
 (.block 0 (.loop (.seq (.seq (.ops [iM 8 3,
    iJ .len [.t 8] 9,
    iJ (.bin .gtr) [.t 9, cI 0] 10])
   (.ite (.t 10) .skip
    (.exit 0)))
   (.block 1 (.seq (.ops [iM 12 3,
     iJ (.call 53) [.t 12] 13,
     iM 11 13,
     iJ (.ext 0) [.t 11] 14,
     iJ (.ext 1) [.t 11] 15,
     iJ (.ext 2) [.t 11] 16,
     iM 4 14,
     iM 5 15,
     iM 6 16])
    (.seq (.seq (.ops [iM 17 6,
     iJ (.bin .eql) [.t 17, cI 0] 18,
     iM 19 18,
     iG .mv [.t 4] 20 19 true,
     iG .mv [.t 3] 21 19 true,
     iG .len [.t 21] 22 19 true,
     iG .mv [.t 5] 23 19 true,
     iG (.bin .sub) [.t 22, .t 23] 24 19 true,
     iG (.bin .gtr) [.t 20, .t 24] 25 19 true,
     iJ .pick [.t 19, .t 25, .c (.pv (.b false))] 26])
    (.ite (.t 26) (.ops [iJ .mv [cI 8] 6])
     .skip))
    (.seq (.seq (.ops [iM 27 6,
     iJ (.bin .neq) [.t 27, cI 0] 28])
    (.ite (.t 28) (.seq (.ops [iM 29 0,
      iM 30 6,
      iJ .yv [.t 29, .c (.pv (.sl true 0 [])), .t 30] 31])
     .ret)
     .skip))
    (.seq (.seq (.ops [iM 32 0,
     iJ (.bsl 1) [] 33,
     iM 34 3,
     iM 35 5,
     iM 36 5,
     iM 37 4,
     iJ (.bin .add) [.t 36, .t 37] 38,
     iJ (.slc 1 true true false) [.t 34, .t 35, .t 38] 39,
     iJ (.app 1 1) [.t 33, .t 39] 40,
     iJ .yv [.t 32, .t 40, cI 0] 41,
     iJ (.un .not) [.t 41] 42])
    (.ite (.t 42) .ret
     .skip))
    (.ops [iM 43 3,
     iM 44 5,
     iM 45 4,
     iJ (.bin .add) [.t 44, .t 45] 46,
     iJ (.slc 1 true false false) [.t 43, .t 46] 47,
     iM 3 47]))))))))))
theorem fn52 : fnOf Try.prog 52 = some (48, [], ir52) := by kernel_rfl
def ir53 : C :=
 (.seq (.ops [iJ .mv [cI 0] 2,
  iJ .mv [cI 0] 3,
  iJ .mv [cI 0] 4])
 (.seq (.seq (.ops [iM 6 0,
  iJ (.iaS 1) [.t 6, cI 0] 7,
  iJ (.ld 1 false) [.t 7] 8,
  iJ (.bin .lss) [.t 8, .c (.pv (.i .u8 255))] 9])
 (.ite (.t 9) (.seq (.ops [iM 10 0,
   iJ (.iaS 1) [.t 10, cI 0] 11,
   iJ (.ld 1 false) [.t 11] 12,
   iJ (.cvI .i64) [.t 12] 13,
   iM 2 13,
   iJ .mv [cI 1] 3,
   iJ .mv [cI 0] 4])
  .ret)
  .skip))
 (.seq (.seq (.ops [iM 14 0,
  iJ .len [.t 14] 15,
  iJ (.bin .lss) [.t 15, cI 3] 16])
 (.ite (.t 16) (.seq (.ops [iJ .mv [cI 0] 2,
   iJ .mv [cI 0] 3,
   iJ .mv [cI 8] 4])
  .ret)
  .skip))
 (.seq (.any [] [(iM 17 0, 0, []),
  (iJ (.iaS 1) [.t 17, cI 1] 18, 1, []),
  (iJ (.ld 1 false) [.t 18] 19, 1, []),
  (iJ (.cvI .i64) [.t 19] 20, 0, []),
  (iJ (.bin .shl) [.t 20, .c (.pv (.i .u64 8))] 21, 0, []),
  (iM 22 0, 0, []),
  (iJ (.iaS 1) [.t 22, cI 2] 23, 1, []),
  (iJ (.ld 1 false) [.t 23] 24, 1, []),
  (iJ (.cvI .i64) [.t 24] 25, 0, []),
  (iJ (.bin .or) [.t 21, .t 25] 26, 0, []),
  (iM 5 26, 0, [])])
 (.seq (.seq (.ops [iM 27 5,
  iJ (.bin .lss) [.t 27, cI 255] 28])
 (.ite (.t 28) (.seq (.ops [iJ .mv [cI 0] 2,
   iJ .mv [cI 0] 3,
   iJ .mv [cI 7] 4])
  .ret)
  .skip))
 (.seq (.ops [iM 29 5,
  iM 2 29,
  iJ .mv [cI 3] 3,
  iJ .mv [cI 0] 4])
 .ret))))))
theorem fn53 : fnOf Try.prog 53 = some (30, [.t 2, .t 3, .t 4], ir53) := by kernel_rfl
def ir54 : C :=
 (.seq (.ops [iJ .mv [.c (.pv (.b false))] 2])
 (.seq (.ops [iM 3 0,
  iJ (.bin .geq) [.t 3, cI 1] 4,
  iM 5 4,
  iG .mv [.t 0] 6 5 true,
  iG (.bin .leq) [.t 6, cI 8] 7 5 true,
  iJ .pick [.t 5, .t 7, .c (.pv (.b false))] 8,
  iM 2 8])
 .ret))
theorem fn54 : fnOf Try.prog 54 = some (9, [.t 2], ir54) := by kernel_rfl
def ir55 : C :=
 (.seq (.ops [iJ .mv [.c (.pv (.b false))] 4])
 (.seq (.ops [iM 5 0,
  iM 6 1,
  iJ (.call 68) [.t 5, .t 6] 7,
  iJ (.bin .geq) [.t 7, cI 0] 8,
  iM 4 8])
 .ret))
theorem fn55 : fnOf Try.prog 55 = some (9, [.t 4], ir55) := by kernel_rfl
def ir56 : C :=
 (.seq (.ops [iJ .box [.t 0] 1,
  iJ .mv [.c (.pv (.b false))] 2])
 (.seq (.ops [iJ (.ld 21 true) [.t 1] 3,
  iJ (.call 57) [.t 3] 4,
  iJ (.un .not) [.t 4] 5,
  iM 2 5])
 .ret))
theorem fn56 : fnOf Try.prog 56 = some (6, [.t 2], ir56) := by kernel_rfl
def ir57 : C :=
 (.seq (.ops [iJ .box [.t 0] 1,
  iJ .mv [.c (.pv (.b false))] 2])
 (.seq (.seq (.any [] [(iJ (.fa 0) [.t 1] 7, 0, []),
  (iJ (.fa 0) [.t 7] 8, 0, []),
  (iJ (.ld 1 false) [.t 8] 9, 1, []),
  (iJ (.bin .lss) [.t 9, cI 1] 10, 0, []),
  (iM 11 10, 0, []),
  (iG (.fa 0) [.t 1] 12 11 false, 0, []),
  (iG (.fa 0) [.t 12] 13 11 false, 0, []),
  (iG (.ld 1 false) [.t 13] 14 11 false, 1, []),
  (iG (.bin .gtr) [.t 14, cI 8] 15 11 false, 0, []),
  (iJ .pick [.t 11, .c (.pv (.b true)), .t 15] 16, 0, []),
  (iM 17 16, 0, []),
  (iG (.fa 0) [.t 1] 18 17 false, 0, []),
  (iG (.fa 1) [.t 18] 19 17 false, 0, []),
  (iG (.ld 1 false) [.t 19] 20 17 false, 1, []),
  (iG (.bin .lss) [.t 20, .c (.pv (.i .u32 1))] 21 17 false, 0, []),
  (iJ .pick [.t 17, .c (.pv (.b true)), .t 21] 22, 0, []),
  (iM 23 22, 0, []),
  (iG (.fa 0) [.t 1] 24 23 false, 0, []),
  (iG (.fa 1) [.t 24] 25 23 false, 0, []),
  (iG (.ld 1 false) [.t 25] 26 23 false, 1, []),
  (iG (.bin .gtr) [.t 26, .c (.pv (.i .u32 1048576))] 27 23 false, 0, []),
  (iJ .pick [.t 23, .c (.pv (.b true)), .t 27] 28, 0, []),
  (iM 29 28, 0, []),
  (iG (.fa 0) [.t 1] 30 29 false, 0, []),
  (iG (.fa 0) [.t 30] 31 29 false, 0, []),
  (iG (.ld 1 false) [.t 31] 32 29 false, 1, []),
  (iG (.bin .sub) [.t 32, cI 1] 33 29 false, 0, []),
  (iG (.fa 2) [.t 1] 34 29 false, 0, []),
  (iG (.iaA 8 1) [.t 34, .t 33] 35 29 false, 0, []),
  (iG (.ld 1 false) [.t 35] 36 29 false, 1, []),
  (iG (.fa 0) [.t 1] 37 29 false, 0, []),
  (iG (.fa 1) [.t 37] 38 29 false, 0, []),
  (iG (.ld 1 false) [.t 38] 39 29 false, 1, []),
  (iG (.bin .sub) [.t 39, .c (.pv (.i .u32 1))] 40 29 false, 0, []),
  (iG (.bin .neq) [.t 36, .t 40] 41 29 false, 0, []),
  (iJ .pick [.t 29, .c (.pv (.b true)), .t 41] 42, 0, []),
  (iM 43 42, 0, []),
  (iG (.fa 10) [.t 1] 44 43 false, 0, []),
  (iG (.ld 1 false) [.t 44] 45 43 false, 1, []),
  (iG (.bin .lss) [.t 45, cI 1] 46 43 false, 0, []),
  (iJ .pick [.t 43, .c (.pv (.b true)), .t 46] 47, 0, []),
  (iM 48 47, 0, []),
  (iG (.fa 10) [.t 1] 49 48 false, 0, []),
  (iG (.ld 1 false) [.t 49] 50 48 false, 1, []),
  (iG (.bin .gtr) [.t 50, cI 9] 51 48 false, 0, []),
  (iJ .pick [.t 48, .c (.pv (.b true)), .t 51] 52, 0, [])])
 (.ite (.t 52) (.seq (.ops [iJ .mv [.c (.pv (.b false))] 2])
  .ret)
  .skip))
 (.seq (.seq (.ops [iJ (.fa 2) [.t 1] 53,
  iJ (.ld 8 true) [.t 53] 54,
  iJ .mv [cI 0] 55])
 (.block 0 (.loop (.seq (.ops [iJ (.bin .lss) [.t 55, cI 8] 56])
   (.seq (.ite (.t 56) .skip
    (.exit 0))
   (.seq (.block 1 (.seq (.ops [iJ (.ixA 8 1 false) [.t 54, .t 55] 57,
     iM 4 57])
    (.seq (.ops [iM 58 4,
     iJ (.bin .gtr) [.t 58, .c (.pv (.i .u32 1048576))] 59])
    (.ite (.t 59) (.seq (.ops [iJ .mv [.c (.pv (.b false))] 2])
     .ret)
     .skip))))
   (.ops [iJ (.bin .add) [.t 55, cI 1] 60,
    iM 55 60])))))))
 (.seq (.ops [iJ (.ld 21 true) [.t 1] 61,
  iJ (.call 69) [.t 61] 62,
  iJ (.new (.agg [.pv (.i .i64 0), .pv (.i .u32 0), .vec 8 (List.replicate 8 (.i .u32 0)), .pv (.i .i64 0), .pv (.i .i64 0), .pv (.i .u32 0), .pv (.i .i64 0), .pv (.i .u32 0), .pv (.s []), .pv (.sl true 0 []), .pv (.sl true 0 []), .pv (.i .i64 0), .pv (.s []), .pv (.i .i64 0)])) [] 5,
  iO (.sto 21) [.t 5, .t 62]])
 (.seq (.seq (.ops [iJ (.fa 11) [.t 5] 63,
  iJ (.ld 2 true) [.t 63] 64,
  iJ (.bld [1, 1]) [cI 0, .c (.pv (.i .u32 0))] 65,
  iJ (.eqv true [.int .i64, .int .u32]) [.t 64, .t 65] 66,
  iM 67 66,
  iG (.fa 13) [.t 5] 68 67 false,
  iG (.ld 2 true) [.t 68] 69 67 false,
  iG (.bld [1, 1]) [cI 0, .c (.pv (.i .u32 0))] 70 67 false,
  iG (.eqv true [.int .i64, .int .u32]) [.t 69, .t 70] 71 67 false,
  iJ .pick [.t 67, .c (.pv (.b true)), .t 71] 72,
  iM 73 72,
  iG (.fa 15) [.t 5] 74 73 false,
  iG (.ld 1 false) [.t 74] 75 73 false,
  iG (.bin .neq) [.t 75, .c (.pv (.s []))] 76 73 false,
  iJ .pick [.t 73, .c (.pv (.b true)), .t 76] 77,
  iM 78 77,
  iG (.fa 16) [.t 5] 79 78 false,
  iG (.ld 1 false) [.t 79] 80 78 false,
  iG .len [.t 80] 81 78 false,
  iG (.bin .gtr) [.t 81, cI 0] 82 78 false,
  iJ .pick [.t 78, .c (.pv (.b true)), .t 82] 83,
  iM 84 83,
  iG (.fa 17) [.t 5] 85 84 false,
  iG (.ld 1 false) [.t 85] 86 84 false,
  iG .len [.t 86] 87 84 false,
  iG (.bin .gtr) [.t 87, cI 0] 88 84 false,
  iJ .pick [.t 84, .c (.pv (.b true)), .t 88] 89,
  iM 90 89,
  iG (.fa 18) [.t 5] 91 90 false,
  iG (.ld 1 false) [.t 91] 92 90 false,
  iG (.bin .neq) [.t 92, cI 0] 93 90 false,
  iJ .pick [.t 90, .c (.pv (.b true)), .t 93] 94,
  iM 95 94,
  iG (.fa 19) [.t 5] 96 95 false,
  iG (.ld 1 false) [.t 96] 97 95 false,
  iG (.bin .neq) [.t 97, .c (.pv (.s []))] 98 95 false,
  iJ .pick [.t 95, .c (.pv (.b true)), .t 98] 99,
  iM 100 99,
  iG (.fa 20) [.t 5] 101 100 false,
  iG (.ld 1 false) [.t 101] 102 100 false,
  iG (.bin .neq) [.t 102, cI 0] 103 100 false,
  iJ .pick [.t 100, .c (.pv (.b true)), .t 103] 104])
 (.ite (.t 104) (.seq (.ops [iJ .mv [.c (.pv (.b false))] 2])
  .ret)
  .skip))
 (.seq (.ops [iJ .mv [.c (.fn (.func 70) [])] 6])
 (.seq (.seq (.ops [iJ (.fa 10) [.t 1] 105,
  iJ (.ld 1 false) [.t 105] 106])
 (.block 2 (.seq (.seq (.ops [iJ (.bin .eql) [.t 106, cI 1] 108,
   iM 107 108])
  (.ite (.t 107) .skip
   (.ops [iJ (.bin .eql) [.t 106, cI 2] 109,
    iM 107 109])))
  (.ite (.t 107) (.seq (.ops [iJ (.ld 21 true) [.t 1] 110,
    iJ (.call 71) [.t 110] 111,
    iM 112 111,
    iG (.fa 15) [.t 1] 113 112 true,
    iG (.ld 1 false) [.t 113] 114 112 true,
    iG (.call 72) [.t 114] 115 112 true,
    iJ .pick [.t 112, .t 115, .c (.pv (.b false))] 116,
    iM 2 116])
   .ret)
   (.seq (.ops [iJ (.bin .eql) [.t 106, cI 3] 118,
    iM 117 118])
   (.ite (.t 117) (.seq (.ops [iJ (.fa 2) [.t 1] 119,
     iJ (.ld 8 true) [.t 119] 120,
     iJ (.fa 11) [.t 1] 121,
     iJ (.ld 2 true) [.t 121] 122,
     iJ (.call 73) [.t 120, .t 122] 123,
     iM 124 123,
     iG (.fa 17) [.t 1] 125 124 true,
     iG (.ld 1 false) [.t 125] 126 124 true,
     iG (.fa 2) [.t 1] 127 124 true,
     iG (.ld 8 true) [.t 127] 128 124 true,
     iG (.call 74) [.t 126, cI 1, .t 128] 129 124 true,
     iJ .pick [.t 124, .t 129, .c (.pv (.b false))] 130,
     iM 131 130,
     iG .mv [.t 6] 132 131 true,
     iG (.fa 18) [.t 1] 133 131 true,
     iG (.ld 1 false) [.t 133] 134 131 true,
     iG .yv [.t 132, .t 134] 135 131 true,
     iJ .pick [.t 131, .t 135, .c (.pv (.b false))] 136,
     iM 137 136,
     iG (.fa 19) [.t 1] 138 137 true,
     iG (.ld 1 false) [.t 138] 139 137 true,
     iG .lenS [.t 139] 140 137 true,
     iG (.bin .geq) [.t 140, cI 1] 141 137 true,
     iJ .pick [.t 137, .t 141, .c (.pv (.b false))] 142,
     iM 143 142,
     iG .mv [.t 6] 144 143 true,
     iG (.fa 19) [.t 1] 145 143 true,
     iG (.ld 1 false) [.t 145] 146 143 true,
     iG .lenS [.t 146] 147 143 true,
     iG .yv [.t 144, .t 147] 148 143 true,
     iJ .pick [.t 143, .t 148, .c (.pv (.b false))] 149,
     iM 150 149,
     iG .mv [.t 6] 151 150 true,
     iG (.fa 18) [.t 1] 152 150 true,
     iG (.ld 1 false) [.t 152] 153 150 true,
     iG (.fa 19) [.t 1] 154 150 true,
     iG (.ld 1 false) [.t 154] 155 150 true,
     iG .lenS [.t 155] 156 150 true,
     iG (.bin .add) [.t 153, .t 156] 157 150 true,
     iG .yv [.t 151, .t 157] 158 150 true,
     iJ .pick [.t 150, .t 158, .c (.pv (.b false))] 159,
     iM 2 159])
    .ret)
    (.seq (.ops [iJ (.bin .eql) [.t 106, cI 4] 161,
     iM 160 161])
    (.ite (.t 160) (.seq (.ops [iJ (.fa 2) [.t 1] 162,
      iJ (.ld 8 true) [.t 162] 163,
      iJ (.fa 11) [.t 1] 164,
      iJ (.ld 2 true) [.t 164] 165,
      iJ (.call 73) [.t 163, .t 165] 166,
      iM 167 166,
      iG (.fa 17) [.t 1] 168 167 true,
      iG (.ld 1 false) [.t 168] 169 167 true,
      iG (.fa 2) [.t 1] 170 167 true,
      iG (.ld 8 true) [.t 170] 171 167 true,
      iG (.call 74) [.t 169, cI 1, .t 171] 172 167 true,
      iJ .pick [.t 167, .t 172, .c (.pv (.b false))] 173,
      iM 174 173,
      iG .mv [.t 6] 175 174 true,
      iG (.fa 18) [.t 1] 176 174 true,
      iG (.ld 1 false) [.t 176] 177 174 true,
      iG .yv [.t 175, .t 177] 178 174 true,
      iJ .pick [.t 174, .t 178, .c (.pv (.b false))] 179,
      iM 2 179])
     .ret)
     (.seq (.ops [iJ (.bin .eql) [.t 106, cI 5] 181,
      iM 180 181])
     (.ite (.t 180) (.seq (.ops [iJ (.fa 2) [.t 1] 182,
       iJ (.ld 8 true) [.t 182] 183,
       iJ (.fa 11) [.t 1] 184,
       iJ (.ld 2 true) [.t 184] 185,
       iJ (.call 73) [.t 183, .t 185] 186,
       iM 187 186,
       iG (.fa 17) [.t 1] 188 187 true,
       iG (.ld 1 false) [.t 188] 189 187 true,
       iG (.fa 2) [.t 1] 190 187 true,
       iG (.ld 8 true) [.t 190] 191 187 true,
       iG (.call 74) [.t 189, cI 8, .t 191] 192 187 true,
       iJ .pick [.t 187, .t 192, .c (.pv (.b false))] 193,
       iM 194 193,
       iG (.fa 17) [.t 1] 195 194 true,
       iG (.ld 1 false) [.t 195] 196 194 true,
       iG .len [.t 196] 197 194 true,
       iG (.bin .geq) [.t 197, cI 2] 198 194 true,
       iJ .pick [.t 194, .t 198, .c (.pv (.b false))] 199,
       iM 200 199,
       iG .mv [.t 6] 201 200 true,
       iG (.fa 19) [.t 1] 202 200 true,
       iG (.ld 1 false) [.t 202] 203 200 true,
       iG .lenS [.t 203] 204 200 true,
       iG .yv [.t 201, .t 204] 205 200 true,
       iJ .pick [.t 200, .t 205, .c (.pv (.b false))] 206,
       iM 2 206])
      .ret)
      (.seq (.ops [iJ (.bin .eql) [.t 106, cI 6] 208,
       iM 207 208])
      (.ite (.t 207) (.seq (.ops [iJ (.fa 2) [.t 1] 209,
        iJ (.ld 8 true) [.t 209] 210,
        iJ (.fa 11) [.t 1] 211,
        iJ (.ld 2 true) [.t 211] 212,
        iJ (.call 73) [.t 210, .t 212] 213,
        iM 214 213,
        iG (.fa 16) [.t 1] 215 214 true,
        iG (.ld 1 false) [.t 215] 216 214 true,
        iG (.fa 2) [.t 1] 217 214 true,
        iG (.ld 8 true) [.t 217] 218 214 true,
        iG (.call 74) [.t 216, cI 8, .t 218] 219 214 true,
        iJ .pick [.t 214, .t 219, .c (.pv (.b false))] 220,
        iM 2 220])
       .ret)
       (.seq (.ops [iJ (.bin .eql) [.t 106, cI 7] 222,
        iM 221 222])
       (.ite (.t 221) (.seq (.ops [iJ (.fa 2) [.t 1] 223,
         iJ (.ld 8 true) [.t 223] 224,
         iJ (.fa 11) [.t 1] 225,
         iJ (.ld 2 true) [.t 225] 226,
         iJ (.call 73) [.t 224, .t 226] 227,
         iM 228 227,
         iG (.fa 16) [.t 1] 229 228 true,
         iG (.ld 1 false) [.t 229] 230 228 true,
         iG (.fa 2) [.t 1] 231 228 true,
         iG (.ld 8 true) [.t 231] 232 228 true,
         iG (.call 74) [.t 230, cI 8, .t 232] 233 228 true,
         iJ .pick [.t 228, .t 233, .c (.pv (.b false))] 234,
         iM 235 234,
         iG (.ld 21 true) [.t 1] 236 235 true,
         iG (.call 71) [.t 236] 237 235 true,
         iJ .pick [.t 235, .t 237, .c (.pv (.b false))] 238,
         iM 239 238,
         iG (.fa 15) [.t 1] 240 239 true,
         iG (.ld 1 false) [.t 240] 241 239 true,
         iG (.call 72) [.t 241] 242 239 true,
         iJ .pick [.t 239, .t 242, .c (.pv (.b false))] 243,
         iM 2 243])
        .ret)
        (.seq (.ops [iJ (.bin .eql) [.t 106, cI 8] 245,
         iM 244 245])
        (.ite (.t 244) (.seq (.ops [iJ (.fa 20) [.t 1] 246,
          iJ (.ld 1 false) [.t 246] 247,
          iJ (.bin .geq) [.t 247, cI 1] 248,
          iM 249 248,
          iG (.fa 20) [.t 1] 250 249 true,
          iG (.ld 1 false) [.t 250] 251 249 true,
          iG (.bin .leq) [.t 251, cI 4] 252 249 true,
          iJ .pick [.t 249, .t 252, .c (.pv (.b false))] 253,
          iM 2 253])
         .ret)
         .skip))))))))))))))))
 (.seq (.ops [iJ .mv [.c (.pv (.b true))] 2])
 .ret))))))))
theorem fn57 : fnOf Try.prog 57 = some (254, [.t 2], ir57) := by kernel_rfl
def ir58 : C :=
 (.seq (.ops [iJ .mv [.c (.pv (.sl true 0 []))] 2])
 (.seq (.ops [iM 4 0,
  iJ (.cvI .u64) [.t 4] 5,
  iJ (.call 59) [.t 5] 6,
  iM 3 6])
 (.seq (.ops [iM 7 3,
  iJ .len [.t 7] 8,
  iJ (.cvI .u8) [.t 8] 9,
  iJ (.bsl 1) [.t 9] 10,
  iM 11 3,
  iJ (.app 1 1) [.t 10, .t 11] 12,
  iM 2 12])
 .ret)))
theorem fn58 : fnOf Try.prog 58 = some (13, [.t 2], ir58) := by kernel_rfl
def ir59 : C :=
 (.seq (.ops [iJ .mv [.c (.pv (.sl true 0 []))] 2])
 (.seq (.ops [iJ (.bsl 1) [] 6,
  iM 3 6])
 (.seq (.seq (.ops [iJ .mv [cI 56] 4])
 (.block 0 (.loop (.seq (.seq (.ops [iM 7 4,
    iJ (.bin .geq) [.t 7, cI 0] 8])
   (.ite (.t 8) .skip
    (.exit 0)))
   (.seq (.block 1 (.seq (.ops [iM 11 0,
     iM 12 4,
     iJ (.bin .shr) [.t 11, .t 12] 13,
     iJ (.cvI .u8) [.t 13] 14,
     iM 5 14])
    (.seq (.ops [iM 15 5,
     iJ (.bin .neq) [.t 15, .c (.pv (.i .u8 0))] 16,
     iM 17 16,
     iG .mv [.t 3] 18 17 false,
     iG .len [.t 18] 19 17 false,
     iG (.bin .gtr) [.t 19, cI 0] 20 17 false,
     iJ .pick [.t 17, .c (.pv (.b true)), .t 20] 21])
    (.ite (.t 21) (.ops [iM 22 3,
      iM 23 5,
      iJ (.bsl 1) [.t 23] 24,
      iJ (.app 1 1) [.t 22, .t 24] 25,
      iM 3 25])
     .skip))))
   (.ops [iM 9 4,
    iJ (.bin .sub) [.t 9, cI 8] 10,
    iM 4 10]))))))
 (.seq (.ops [iM 26 3,
  iM 2 26])
 .ret))))
theorem fn59 : fnOf Try.prog 59 = some (27, [.t 2], ir59) := by kernel_rfl
def ir60 : C :=
 (.seq (.ops [iJ .box [.t 0] 1,
  iJ .mv [.c (.pv (.sl true 0 []))] 2])
 (.seq (.seq (.ops [iJ (.ld 2 true) [.t 1] 3,
  iJ (.bld [1, 1]) [cI 0, .c (.pv (.i .u32 0))] 4,
  iJ (.eqv false [.int .i64, .int .u32]) [.t 3, .t 4] 5])
 (.ite (.t 5) (.seq (.ops [iJ .mv [.c (.pv (.sl true 0 []))] 2])
  .ret)
  .skip))
 (.seq (.any [9, 13, 14] [(iJ (.fa 0) [.t 1] 6, 0, [9, 13, 14]),
  (iJ (.ld 1 false) [.t 6] 7, 1, [9, 13, 14]),
  (iJ (.cvI .u8) [.t 7] 8, 0, [9, 13, 14]),
  (iJ (.bsl 1) [.t 8] 9, 1, [9, 13, 14]),
  (iJ (.fa 1) [.t 1] 10, 0, [9, 13, 14]),
  (iJ (.ld 1 false) [.t 10] 11, 1, [9, 13, 14]),
  (iJ (.cvI .u64) [.t 11] 12, 0, [9, 13, 14]),
  (iJ (.call 59) [.t 12] 13, 1, [9, 13, 14]),
  (iJ (.app 1 1) [.t 9, .t 13] 14, 2, [14]),
  (iM 2 14, 0, [])])
 .ret)))
theorem fn60 : fnOf Try.prog 60 = some (15, [.t 2], ir60) := by kernel_rfl
def ir61 : C :=
 (.seq (.ops [iJ .mv [.c (.pv (.sl true 0 []))] 2])
 (.seq (.ops [iJ .mv [.c (.pv (.sl true 0 []))] 3])
 (.seq (.seq (.ops [iM 8 0,
  iJ .len [.t 8] 9,
  iJ .mv [cI 0] 10])
 (.block 0 (.loop (.seq (.ops [iJ (.bin .lss) [.t 10, .t 9] 11])
   (.seq (.ite (.t 11) .skip
    (.exit 0))
   (.seq (.block 1 (.seq (.ops [iJ (.iaS 2) [.t 8, .t 10] 12,
     iJ (.ld 2 true) [.t 12] 13,
     iJ (.new (.agg [.pv (.i .i64 0), .pv (.i .u32 0)])) [] 5,
     iO (.sto 2) [.t 5, .t 13]])
    (.ops [iM 14 3,
     iJ (.ld 2 true) [.t 5] 15,
     iJ (.call 60) [.t 15] 16,
     iJ (.bsl 1) [.t 16] 17,
     iJ (.app 1 24) [.t 14, .t 17] 18,
     iM 3 18])))
   (.ops [iJ (.bin .add) [.t 10, cI 1] 19,
    iM 10 19])))))))
 (.seq (.ops [iM 21 3,
  iJ (.call 24) [.t 21] 22,
  iM 20 22,
  iJ (.ext 0) [.t 20] 23,
  iJ (.ext 1) [.t 20] 24,
  iM 6 23,
  iM 7 24])
 (.seq (.ops [iM 25 6,
  iM 2 25])
 .ret)))))
theorem fn61 : fnOf Try.prog 61 = some (26, [.t 2], ir61) := by kernel_rfl
def ir62 : C :=
 (.seq (.ops [iJ .mv [.c (.pv (.b false))] 4])
 (.seq (.seq (.ops [iM 6 0,
  iJ .len [.t 6] 7,
  iM 8 1,
  iJ .len [.t 8] 9,
  iJ (.bin .neq) [.t 7, .t 9] 10])
 (.ite (.t 10) (.seq (.ops [iJ .mv [.c (.pv (.b false))] 4])
  .ret)
  .skip))
 (.seq (.seq (.ops [iJ .mv [cI 0] 5])
 (.block 0 (.loop (.seq (.seq (.ops [iM 11 5,
    iM 12 0,
    iJ .len [.t 12] 13,
    iJ (.bin .lss) [.t 11, .t 13] 14])
   (.ite (.t 14) .skip
    (.exit 0)))
   (.seq (.block 1 (.seq (.any [] [(iM 17 0, 0, []),
     (iM 18 5, 0, []),
     (iJ (.iaS 2) [.t 17, .t 18] 19, 1, []),
     (iJ (.ld 2 true) [.t 19] 20, 1, []),
     (iM 21 1, 0, []),
     (iM 22 5, 0, []),
     (iJ (.iaS 2) [.t 21, .t 22] 23, 1, []),
     (iJ (.ld 2 true) [.t 23] 24, 1, []),
     (iJ (.eqv true [.int .i64, .int .u32]) [.t 20, .t 24] 25, 0, [])])
    (.ite (.t 25) (.seq (.ops [iJ .mv [.c (.pv (.b false))] 4])
     .ret)
     .skip)))
   (.ops [iM 15 5,
    iJ (.bin .add) [.t 15, cI 1] 16,
    iM 5 16]))))))
 (.seq (.ops [iJ .mv [.c (.pv (.b true))] 4])
 .ret))))
theorem fn62 : fnOf Try.prog 62 = some (26, [.t 4], ir62) := by kernel_rfl
def ir63 : C :=
 (.seq (.ops [iJ .box [.t 0] 1,
  iJ .mv [.c (.pv (.b false))] 2])
 (.seq (.seq (.any [37] [(iJ (.fa 0) [.t 1] 9, 0, [37]),
  (iJ (.fa 0) [.t 9] 10, 0, [37]),
  (iJ (.ld 1 false) [.t 10] 11, 1, [37]),
  (iJ (.bin .lss) [.t 11, cI 1] 12, 0, [37]),
  (iM 13 12, 0, [37]),
  (iG (.fa 0) [.t 1] 14 13 false, 0, [37]),
  (iG (.fa 0) [.t 14] 15 13 false, 0, [37]),
  (iG (.ld 1 false) [.t 15] 16 13 false, 1, [37]),
  (iG (.bin .gtr) [.t 16, cI 8] 17 13 false, 0, [37]),
  (iJ .pick [.t 13, .c (.pv (.b true)), .t 17] 18, 0, [37]),
  (iM 19 18, 0, [37]),
  (iG (.fa 0) [.t 1] 20 19 false, 0, [37]),
  (iG (.fa 1) [.t 20] 21 19 false, 0, [37]),
  (iG (.ld 1 false) [.t 21] 22 19 false, 1, [37]),
  (iG (.bin .lss) [.t 22, .c (.pv (.i .u32 1))] 23 19 false, 0, [37]),
  (iJ .pick [.t 19, .c (.pv (.b true)), .t 23] 24, 0, [37]),
  (iM 25 24, 0, [37]),
  (iG (.fa 0) [.t 1] 26 25 false, 0, [37]),
  (iG (.fa 1) [.t 26] 27 25 false, 0, [37]),
  (iG (.ld 1 false) [.t 27] 28 25 false, 1, [37]),
  (iG (.bin .gtr) [.t 28, .c (.pv (.i .u32 1048576))] 29 25 false, 0, [37]),
  (iJ .pick [.t 25, .c (.pv (.b true)), .t 29] 30, 0, [37]),
  (iM 31 30, 0, [37]),
  (iG (.fa 2) [.t 1] 32 31 false, 0, [37]),
  (iG (.ld 8 true) [.t 32] 33 31 false, 1, [37]),
  (iG (.fa 0) [.t 1] 34 31 false, 0, [37]),
  (iG (.fa 0) [.t 34] 35 31 false, 0, [37]),
  (iG (.ld 1 false) [.t 35] 36 31 false, 1, [37]),
  (iG (.call 75) [.t 33, .t 36] 37 31 false, 1, [37]),
  (iG (.bin .add) [.t 37, .c (.pv (.i .u32 1))] 38 31 false, 0, []),
  (iG (.fa 0) [.t 1] 39 31 false, 0, [37]),
  (iG (.fa 1) [.t 39] 40 31 false, 0, [37]),
  (iG (.ld 1 false) [.t 40] 41 31 false, 1, [37]),
  (iG (.bin .neq) [.t 38, .t 41] 42 31 false, 0, [37]),
  (iJ .pick [.t 31, .c (.pv (.b true)), .t 42] 43, 0, [37])])
 (.ite (.t 43) (.seq (.ops [iJ .mv [.c (.pv (.b false))] 2])
  .ret)
  .skip))
 (.seq (.seq (.ops [iJ .mv [cI 0] 3])
 (.block 0 (.loop (.seq (.seq (.ops [iM 44 3,
    iJ (.bin .lss) [.t 44, cI 8] 45])
   (.ite (.t 45) .skip
    (.exit 0)))
   (.seq (.block 1 (.seq (.ops [iM 48 3,
     iJ (.fa 2) [.t 1] 49,
     iJ (.iaA 8 1) [.t 49, .t 48] 50,
     iJ (.ld 1 false) [.t 50] 51,
     iJ (.bin .gtr) [.t 51, .c (.pv (.i .u32 1048576))] 52])
    (.ite (.t 52) (.seq (.ops [iJ .mv [.c (.pv (.b false))] 2])
     .ret)
     .skip)))
   (.ops [iM 46 3,
    iJ (.bin .add) [.t 46, cI 1] 47,
    iM 3 47]))))))
 (.seq (.any [57, 60, 66] [(iJ (.fa 2) [.t 1] 53, 0, [57, 60, 66]),
  (iJ (.ld 8 true) [.t 53] 54, 1, [57, 60, 66]),
  (iJ (.fa 11) [.t 1] 55, 0, [57, 60, 66]),
  (iJ (.ld 2 true) [.t 55] 56, 1, [57, 60, 66]),
  (iJ (.call 76) [.t 54, .t 56] 57, 1, [57, 60, 66]),
  (iJ (.fa 13) [.t 1] 58, 0, [57, 60, 66]),
  (iJ (.ld 2 true) [.t 58] 59, 1, [57, 60, 66]),
  (iJ (.call 77) [.t 59] 60, 3, [60, 66]),
  (iM 61 60, 0, [57, 66]),
  (iG (.fa 2) [.t 1] 62 61 false, 0, [57, 60, 66]),
  (iG (.ld 8 true) [.t 62] 63 61 false, 1, [57, 60, 66]),
  (iG (.fa 13) [.t 1] 64 61 false, 0, [57, 60, 66]),
  (iG (.ld 2 true) [.t 64] 65 61 false, 1, [57, 60, 66]),
  (iG (.call 76) [.t 63, .t 65] 66 61 false, 3, [57, 60, 66]),
  (iJ .pick [.t 61, .c (.pv (.b true)), .t 66] 67, 0, [57, 60]),
  (iM 4 57, 0, [60]),
  (iM 5 67, 0, [])])
 (.seq (.any [77, 83] [(iJ (.fa 16) [.t 1] 68, 0, [77, 83]),
  (iJ (.ld 1 false) [.t 68] 69, 1, [77, 83]),
  (iJ .len [.t 69] 70, 1, [77, 83]),
  (iJ (.bin .leq) [.t 70, cI 8] 71, 0, [77, 83]),
  (iM 72 71, 0, [77, 83]),
  (iG (.fa 16) [.t 1] 73 72 true, 0, [77, 83]),
  (iG (.ld 1 false) [.t 73] 74 72 true, 1, [77, 83]),
  (iG (.fa 2) [.t 1] 75 72 true, 0, [77, 83]),
  (iG (.ld 8 true) [.t 75] 76 72 true, 1, [77, 83]),
  (iG (.call 78) [.t 74, .t 76] 77 72 true, 1, [77, 83]),
  (iJ .pick [.t 72, .t 77, .c (.pv (.b false))] 78, 0, [83]),
  (iJ (.fa 17) [.t 1] 79, 0, [77, 83]),
  (iJ (.ld 1 false) [.t 79] 80, 1, [77, 83]),
  (iJ (.fa 2) [.t 1] 81, 0, [77, 83]),
  (iJ (.ld 8 true) [.t 81] 82, 1, [77, 83]),
  (iJ (.call 78) [.t 80, .t 82] 83, 1, [83]),
  (iM 6 78, 0, []),
  (iM 7 83, 0, [])])
 (.seq (.ops [iJ (.fa 18) [.t 1] 84,
  iJ (.ld 1 false) [.t 84] 85,
  iJ (.bin .geq) [.t 85, cI 0] 86,
  iM 87 86,
  iG (.fa 18) [.t 1] 88 87 true,
  iG (.ld 1 false) [.t 88] 89 87 true,
  iG (.bin .leq) [.t 89, cI 200] 90 87 true,
  iJ .pick [.t 87, .t 90, .c (.pv (.b false))] 91,
  iM 8 91])
 (.seq (.seq (.ops [iJ (.fa 10) [.t 1] 92,
  iJ (.ld 1 false) [.t 92] 93])
 (.block 2 (.seq (.seq (.ops [iJ (.bin .eql) [.t 93, cI 1] 95,
   iM 94 95])
  (.ite (.t 94) .skip
   (.ops [iJ (.bin .eql) [.t 93, cI 2] 96,
    iM 94 96])))
  (.ite (.t 94) (.seq (.ops [iM 97 5,
    iM 98 97,
    iG (.fa 15) [.t 1] 99 98 true,
    iG (.ld 1 false) [.t 99] 100 98 true,
    iG (.call 79) [.t 100] 101 98 true,
    iJ .pick [.t 98, .t 101, .c (.pv (.b false))] 102,
    iM 103 102,
    iG (.ld 21 true) [.t 1] 104 103 true,
    iG (.call 80) [.t 104, .c (.pv (.b false)), .c (.pv (.b true)), .c (.pv (.b false)), .c (.pv (.b false)), .c (.pv (.b false)), .c (.pv (.b false)), .c (.pv (.b false))] 105 103 true,
    iJ .pick [.t 103, .t 105, .c (.pv (.b false))] 106,
    iM 2 106])
   .ret)
   (.seq (.ops [iJ (.bin .eql) [.t 93, cI 3] 108,
    iM 107 108])
   (.ite (.t 107) (.seq (.ops [iM 109 4,
     iM 110 109,
     iG .mv [.t 7] 111 110 true,
     iJ .pick [.t 110, .t 111, .c (.pv (.b false))] 112,
     iM 113 112,
     iG (.fa 17) [.t 1] 114 113 true,
     iG (.ld 1 false) [.t 114] 115 113 true,
     iG .len [.t 115] 116 113 true,
     iG (.bin .leq) [.t 116, cI 1] 117 113 true,
     iJ .pick [.t 113, .t 117, .c (.pv (.b false))] 118,
     iM 119 118,
     iG .mv [.t 8] 120 119 true,
     iJ .pick [.t 119, .t 120, .c (.pv (.b false))] 121,
     iM 122 121,
     iG (.fa 19) [.t 1] 123 122 true,
     iG (.ld 1 false) [.t 123] 124 122 true,
     iG (.bin .neq) [.t 124, .c (.pv (.s []))] 125 122 true,
     iJ .pick [.t 122, .t 125, .c (.pv (.b false))] 126,
     iM 127 126,
     iG (.fa 19) [.t 1] 128 127 true,
     iG (.ld 1 false) [.t 128] 129 127 true,
     iG .lenS [.t 129] 130 127 true,
     iG (.fa 18) [.t 1] 131 127 true,
     iG (.ld 1 false) [.t 131] 132 127 true,
     iG (.bin .sub) [cI 200, .t 132] 133 127 true,
     iG (.bin .leq) [.t 130, .t 133] 134 127 true,
     iJ .pick [.t 127, .t 134, .c (.pv (.b false))] 135,
     iM 136 135,
     iG (.ld 21 true) [.t 1] 137 136 true,
     iG (.call 80) [.t 137, .c (.pv (.b true)), .c (.pv (.b false)), .c (.pv (.b false)), .c (.pv (.b true)), .c (.pv (.b true)), .c (.pv (.b true)), .c (.pv (.b false))] 138 136 true,
     iJ .pick [.t 136, .t 138, .c (.pv (.b false))] 139,
     iM 2 139])
    .ret)
    (.seq (.ops [iJ (.bin .eql) [.t 93, cI 4] 141,
     iM 140 141])
    (.ite (.t 140) (.seq (.ops [iM 142 4,
      iM 143 142,
      iG .mv [.t 7] 144 143 true,
      iJ .pick [.t 143, .t 144, .c (.pv (.b false))] 145,
      iM 146 145,
      iG (.fa 17) [.t 1] 147 146 true,
      iG (.ld 1 false) [.t 147] 148 146 true,
      iG .len [.t 148] 149 146 true,
      iG (.bin .leq) [.t 149, cI 1] 150 146 true,
      iJ .pick [.t 146, .t 150, .c (.pv (.b false))] 151,
      iM 152 151,
      iG .mv [.t 8] 153 152 true,
      iJ .pick [.t 152, .t 153, .c (.pv (.b false))] 154,
      iM 155 154,
      iG (.ld 21 true) [.t 1] 156 155 true,
      iG (.call 80) [.t 156, .c (.pv (.b true)), .c (.pv (.b false)), .c (.pv (.b false)), .c (.pv (.b true)), .c (.pv (.b true)), .c (.pv (.b false)), .c (.pv (.b false))] 157 155 true,
      iJ .pick [.t 155, .t 157, .c (.pv (.b false))] 158,
      iM 2 158])
     .ret)
     (.seq (.ops [iJ (.bin .eql) [.t 93, cI 5] 160,
      iM 159 160])
     (.ite (.t 159) (.seq (.ops [iM 161 4,
       iM 162 161,
       iG .mv [.t 7] 163 162 true,
       iJ .pick [.t 162, .t 163, .c (.pv (.b false))] 164,
       iM 165 164,
       iG (.fa 17) [.t 1] 166 165 true,
       iG (.ld 1 false) [.t 166] 167 165 true,
       iG .len [.t 167] 168 165 true,
       iG (.bin .geq) [.t 168, cI 2] 169 165 true,
       iJ .pick [.t 165, .t 169, .c (.pv (.b false))] 170,
       iM 171 170,
       iG (.fa 17) [.t 1] 172 171 true,
       iG (.ld 1 false) [.t 172] 173 171 true,
       iG .len [.t 173] 174 171 true,
       iG (.bin .leq) [.t 174, cI 8] 175 171 true,
       iJ .pick [.t 171, .t 175, .c (.pv (.b false))] 176,
       iM 177 176,
       iG (.fa 19) [.t 1] 178 177 true,
       iG (.ld 1 false) [.t 178] 179 177 true,
       iG .lenS [.t 179] 180 177 true,
       iG (.bin .leq) [.t 180, cI 200] 181 177 true,
       iJ .pick [.t 177, .t 181, .c (.pv (.b false))] 182,
       iM 183 182,
       iG (.ld 21 true) [.t 1] 184 183 true,
       iG (.call 80) [.t 184, .c (.pv (.b true)), .c (.pv (.b false)), .c (.pv (.b false)), .c (.pv (.b true)), .c (.pv (.b false)), .c (.pv (.b true)), .c (.pv (.b false))] 185 183 true,
       iJ .pick [.t 183, .t 185, .c (.pv (.b false))] 186,
       iM 2 186])
      .ret)
      (.seq (.ops [iJ (.bin .eql) [.t 93, cI 6] 188,
       iM 187 188])
      (.ite (.t 187) (.seq (.ops [iM 189 4,
        iM 190 189,
        iG .mv [.t 6] 191 190 true,
        iJ .pick [.t 190, .t 191, .c (.pv (.b false))] 192,
        iM 193 192,
        iG (.ld 21 true) [.t 1] 194 193 true,
        iG (.call 80) [.t 194, .c (.pv (.b true)), .c (.pv (.b false)), .c (.pv (.b true)), .c (.pv (.b false)), .c (.pv (.b false)), .c (.pv (.b false)), .c (.pv (.b false))] 195 193 true,
        iJ .pick [.t 193, .t 195, .c (.pv (.b false))] 196,
        iM 2 196])
       .ret)
       (.seq (.ops [iJ (.bin .eql) [.t 93, cI 7] 198,
        iM 197 198])
       (.ite (.t 197) (.seq (.ops [iM 199 4,
         iM 200 199,
         iG .mv [.t 6] 201 200 true,
         iJ .pick [.t 200, .t 201, .c (.pv (.b false))] 202,
         iM 203 202,
         iG .mv [.t 5] 204 203 true,
         iJ .pick [.t 203, .t 204, .c (.pv (.b false))] 205,
         iM 206 205,
         iG (.fa 15) [.t 1] 207 206 true,
         iG (.ld 1 false) [.t 207] 208 206 true,
         iG (.call 79) [.t 208] 209 206 true,
         iJ .pick [.t 206, .t 209, .c (.pv (.b false))] 210,
         iM 211 210,
         iG (.ld 21 true) [.t 1] 212 211 true,
         iG (.call 80) [.t 212, .c (.pv (.b true)), .c (.pv (.b true)), .c (.pv (.b true)), .c (.pv (.b false)), .c (.pv (.b false)), .c (.pv (.b false)), .c (.pv (.b false))] 213 211 true,
         iJ .pick [.t 211, .t 213, .c (.pv (.b false))] 214,
         iM 2 214])
        .ret)
        (.seq (.ops [iJ (.bin .eql) [.t 93, cI 8] 216,
         iM 215 216])
        (.ite (.t 215) (.seq (.ops [iJ (.fa 20) [.t 1] 217,
          iJ (.ld 1 false) [.t 217] 218,
          iJ (.bin .geq) [.t 218, cI 1] 219,
          iM 220 219,
          iG (.fa 20) [.t 1] 221 220 true,
          iG (.ld 1 false) [.t 221] 222 220 true,
          iG (.bin .leq) [.t 222, cI 4] 223 220 true,
          iJ .pick [.t 220, .t 223, .c (.pv (.b false))] 224,
          iM 225 224,
          iG (.ld 21 true) [.t 1] 226 225 true,
          iG (.call 80) [.t 226, .c (.pv (.b false)), .c (.pv (.b false)), .c (.pv (.b false)), .c (.pv (.b false)), .c (.pv (.b false)), .c (.pv (.b false)), .c (.pv (.b true))] 227 225 true,
          iJ .pick [.t 225, .t 227, .c (.pv (.b false))] 228,
          iM 2 228])
         .ret)
         (.seq (.ops [iJ (.bin .eql) [.t 93, cI 9] 230,
          iM 229 230])
         (.ite (.t 229) (.seq (.ops [iJ (.ld 21 true) [.t 1] 231,
           iJ (.call 80) [.t 231, .c (.pv (.b false)), .c (.pv (.b false)), .c (.pv (.b false)), .c (.pv (.b false)), .c (.pv (.b false)), .c (.pv (.b false)), .c (.pv (.b false))] 232,
           iM 2 232])
          .ret)
          .skip))))))))))))))))))
 (.seq (.ops [iJ .mv [.c (.pv (.b false))] 2])
 .ret))))))))
theorem fn63 : fnOf Try.prog 63 = some (233, [.t 2], ir63) := by kernel_rfl
def ir64 : C :=
 (.seq (.ops [iJ (.new (.vec 8 (List.replicate 8 (.i .i64 0)))) [] 2,
  iJ .mv [cI 0] 3])
 (.seq (.ops [iJ (.new (.vec 8 (List.replicate 8 (.i .i64 0)))) [] 4])
 (.seq (.seq (.ops [iM 12 0,
  iJ .len [.t 12] 13,
  iJ (.bin .lss) [.t 13, cI 2] 14])
 (.ite (.t 14) (.seq (.ops [iJ (.bldV 8 1) [cI 0, cI 0, cI 0, cI 0, cI 0, cI 0, cI 0, cI 0] 15,
   iO (.sto 8) [.t 2, .t 15],
   iJ .mv [cI 8] 3])
  .ret)
  .skip))
 (.seq (.anyF [] [(iM 16 0, 0, []),
  (iJ (.iaS 1) [.t 16, cI 0] 17, 1, []),
  (iJ (.ld 1 false) [.t 17] 18, 1, []),
  (iM 19 0, 0, []),
  (iJ (.iaS 1) [.t 19, cI 1] 20, 1, []),
  (iJ (.ld 1 false) [.t 20] 21, 1, []),
  (iM 22 0, 0, []),
  (iJ (.slc 1 true false false) [.t 22, cI 2] 23, 1, []),
  (iM 5 18, 0, []),
  (iM 6 21, 0, []),
  (iM 7 23, 0, [])])
 (.seq (.seq (.ops [iM 24 5,
  iM 25 6,
  iJ (.bin .and) [.t 24, .t 25] 26,
  iJ (.bin .neq) [.t 26, .c (.pv (.i .u8 0))] 27])
 (.ite (.t 27) (.seq (.ops [iJ (.bldV 8 1) [cI 0, cI 0, cI 0, cI 0, cI 0, cI 0, cI 0, cI 0] 28,
   iO (.sto 8) [.t 2, .t 28],
   iJ .mv [cI 7] 3])
  .ret)
  .skip))
 (.seq .skip
 (.seq (.seq (.ops [iJ .mv [cI 0] 29])
 (.block 0 (.loop (.seq (.ops [iJ (.bin .lss) [.t 29, cI 8] 30])
   (.seq (.ite (.t 30) .skip
    (.exit 0))
   (.seq (.block 1 (.seq (.ops [iM 31 29,
     iM 8 31])
    (.seq (.ops [iJ .mv [cI 1] 9])
    (.seq (.block 2 (.seq (.ops [iM 33 6,
      iM 34 8,
      iJ (.bin .shr) [.t 33, .t 34] 35,
      iJ (.bin .and) [.t 35, .c (.pv (.i .u8 1))] 36,
      iJ (.bin .eql) [.t 36, .c (.pv (.i .u8 1))] 37,
      iM 32 37])
     (.ite (.t 32) (.ops [iJ .mv [.c (.pv (.i .i64 (-1)))] 9])
      (.seq (.ops [iM 39 5,
       iM 40 8,
       iJ (.bin .shr) [.t 39, .t 40] 41,
       iJ (.bin .and) [.t 41, .c (.pv (.i .u8 1))] 42,
       iJ (.bin .eql) [.t 42, .c (.pv (.i .u8 0))] 43,
       iM 38 43])
      (.ite (.t 38) (.exit 1)
       .skip)))))
    (.seq (.seq (.ops [iM 44 7,
     iJ .len [.t 44] 45,
     iJ (.bin .eql) [.t 45, cI 0] 46,
     iM 47 46,
     iG .mv [.t 7] 48 47 false,
     iG (.iaS 1) [.t 48, cI 0] 49 47 false,
     iG (.ld 1 false) [.t 49] 50 47 false,
     iG (.cvI .i64) [.t 50] 51 47 false,
     iG .mv [.t 7] 52 47 false,
     iG .len [.t 52] 53 47 false,
     iG (.bin .sub) [.t 53, cI 1] 54 47 false,
     iG (.bin .gtr) [.t 51, .t 54] 55 47 false,
     iJ .pick [.t 47, .c (.pv (.b true)), .t 55] 56])
    (.ite (.t 56) (.seq (.ops [iJ (.bldV 8 1) [cI 0, cI 0, cI 0, cI 0, cI 0, cI 0, cI 0, cI 0] 57,
      iO (.sto 8) [.t 2, .t 57],
      iJ .mv [cI 8] 3])
     .ret)
     .skip))
    (.seq (.ops [iM 59 7,
     iM 60 7,
     iJ (.iaS 1) [.t 60, cI 0] 61,
     iJ (.ld 1 false) [.t 61] 62,
     iJ (.cvI .i64) [.t 62] 63,
     iJ (.bin .add) [cI 1, .t 63] 64,
     iJ (.slc 1 true true false) [.t 59, cI 1, .t 64] 65,
     iJ (.call 81) [.t 65] 66,
     iM 58 66,
     iJ (.ext 0) [.t 58] 67,
     iJ (.ext 1) [.t 58] 68,
     iM 10 67,
     iM 11 68])
    (.seq (.seq (.ops [iM 69 11,
     iJ (.bin .neq) [.t 69, cI 0] 70,
     iM 71 70,
     iG .mv [.t 10] 72 71 false,
     iG (.bin .eql) [.t 72, .c (.pv (.i .u64 0))] 73 71 false,
     iJ .pick [.t 71, .c (.pv (.b true)), .t 73] 74,
     iM 75 74,
     iG .mv [.t 10] 76 75 false,
     iG (.bin .gtr) [.t 76, .c (.pv (.i .u64 4294967295))] 77 75 false,
     iJ .pick [.t 75, .c (.pv (.b true)), .t 77] 78])
    (.ite (.t 78) (.seq (.ops [iJ (.bldV 8 1) [cI 0, cI 0, cI 0, cI 0, cI 0, cI 0, cI 0, cI 0] 79,
      iO (.sto 8) [.t 2, .t 79],
      iJ .mv [cI 7] 3])
     .ret)
     .skip))
    (.seq (.ops [iM 80 8,
     iM 81 9,
     iM 82 10,
     iJ (.cvI .i64) [.t 82] 83,
     iJ (.bin .mul) [.t 81, .t 83] 84,
     iJ (.iaA 8 1) [.t 4, .t 80] 85,
     iO (.sto 1) [.t 85, .t 84]])
    (.ops [iM 86 7,
     iM 87 7,
     iJ (.iaS 1) [.t 87, cI 0] 88,
     iJ (.ld 1 false) [.t 88] 89,
     iJ (.cvI .i64) [.t 89] 90,
     iJ (.bin .add) [cI 1, .t 90] 91,
     iJ (.slc 1 true false false) [.t 86, .t 91] 92,
     iM 7 92])))))))))
   (.ops [iJ (.bin .add) [.t 29, cI 1] 93,
    iM 29 93])))))))
 (.seq (.seq (.ops [iM 94 7,
  iJ .len [.t 94] 95,
  iJ (.bin .gtr) [.t 95, cI 0] 96])
 (.ite (.t 96) (.seq (.ops [iJ (.bldV 8 1) [cI 0, cI 0, cI 0, cI 0, cI 0, cI 0, cI 0, cI 0] 97,
   iO (.sto 8) [.t 2, .t 97],
   iJ .mv [cI 4] 3])
  .ret)
  .skip))
 (.seq (.ops [iJ (.ld 8 true) [.t 4] 98,
  iO (.sto 8) [.t 2, .t 98],
  iJ .mv [cI 0] 3])
 .ret)))))))))
theorem fn64 : fnOf Try.prog 64 = some (99, [.c 2 8 true, .t 3], ir64) := by kernel_rfl
def ir65 : C :=
 (.seq (.ops [iJ .mv [cI 0] 2])
 (.seq (.ops [iM 6 0,
  iJ (.call 81) [.t 6] 7,
  iM 5 7,
  iJ (.ext 0) [.t 5] 8,
  iJ (.ext 1) [.t 5] 9,
  iM 3 8,
  iM 4 9])
 (.seq (.seq (.ops [iM 10 4,
  iJ (.bin .neq) [.t 10, cI 0] 11,
  iM 12 11,
  iG .mv [.t 3] 13 12 false,
  iG (.bin .gtr) [.t 13, .c (.pv (.i .u64 1073741824))] 14 12 false,
  iJ .pick [.t 12, .c (.pv (.b true)), .t 14] 15])
 (.ite (.t 15) (.seq (.ops [iJ .mv [.c (.pv (.i .i64 (-1)))] 2])
  .ret)
  .skip))
 (.seq (.ops [iM 16 3,
  iJ (.cvI .i64) [.t 16] 17,
  iM 2 17])
 .ret))))
theorem fn65 : fnOf Try.prog 65 = some (18, [.t 2], ir65) := by kernel_rfl
def ir66 : C :=
 (.seq (.ops [iJ (.new (.agg [.pv (.i .i64 0), .pv (.i .u32 0)])) [] 2])
 (.seq (.seq (.ops [iM 5 0,
  iJ .len [.t 5] 6,
  iJ (.bin .eql) [.t 6, cI 0] 7])
 (.ite (.t 7) (.seq (.ops [iJ (.bld [1, 1]) [cI 0, .c (.pv (.i .u32 0))] 8,
   iO (.sto 2) [.t 2, .t 8]])
  .ret)
  .skip))
 (.seq (.ops [iM 10 0,
  iJ (.slc 1 true false false) [.t 10, cI 1] 11,
  iJ (.call 81) [.t 11] 12,
  iM 9 12,
  iJ (.ext 0) [.t 9] 13,
  iJ (.ext 1) [.t 9] 14,
  iM 3 13,
  iM 4 14])
 (.seq (.seq (.ops [iM 15 4,
  iJ (.bin .neq) [.t 15, cI 0] 16,
  iM 17 16,
  iG .mv [.t 3] 18 17 false,
  iG (.bin .gtr) [.t 18, .c (.pv (.i .u64 1048576))] 19 17 false,
  iJ .pick [.t 17, .c (.pv (.b true)), .t 19] 20])
 (.ite (.t 20) (.seq (.ops [iJ (.bld [1, 1]) [cI 0, .c (.pv (.i .u32 0))] 21,
   iO (.sto 2) [.t 2, .t 21]])
  .ret)
  .skip))
 (.seq (.ops [iM 22 0,
  iJ (.iaS 1) [.t 22, cI 0] 23,
  iJ (.ld 1 false) [.t 23] 24,
  iJ (.cvI .i64) [.t 24] 25,
  iM 26 3,
  iJ (.cvI .u32) [.t 26] 27,
  iJ (.bld [1, 1]) [.t 25, .t 27] 28,
  iO (.sto 2) [.t 2, .t 28]])
 .ret)))))
theorem fn66 : fnOf Try.prog 66 = some (29, [.c 2 2 true], ir66) := by kernel_rfl
def ir67 : C :=
 (.seq (.ops [iJ .mv [.c (.pv (.sl true 0 []))] 4,
  iJ .mv [cI 0] 5])
 (.seq (.ops [iM 12 0,
  iM 13 1,
  iJ (.call 27) [.t 12, .t 13] 14,
  iM 11 14,
  iJ (.ext 0) [.t 11] 15,
  iJ (.ext 1) [.t 11] 16,
  iM 6 15,
  iM 7 16])
 (.seq (.seq (.ops [iM 17 7,
  iJ (.bin .neq) [.t 17, cI 0] 18])
 (.ite (.t 18) (.seq (.ops [iM 19 7,
   iJ .mv [.c (.pv (.sl true 0 []))] 4,
   iM 5 19])
  .ret)
  .skip))
 (.seq (.ops [iJ .mv [.c (.pv (.sl true 0 []))] 8])
 (.seq (.seq (.ops [iM 20 6,
  iJ .len [.t 20] 21,
  iJ .mv [cI 0] 22])
 (.block 0 (.loop (.seq (.ops [iJ (.bin .lss) [.t 22, .t 21] 23])
   (.seq (.ite (.t 23) .skip
    (.exit 0))
   (.seq (.block 1 (.seq (.ops [iJ (.iaS 1) [.t 20, .t 22] 24,
     iJ (.ld 1 false) [.t 24] 25,
     iM 10 25])
    (.ops [iM 26 8,
     iM 27 10,
     iJ (.call 66) [.t 27] 28,
     iJ (.bsl 2) [.t 28] 29,
     iJ (.app 2 16) [.t 26, .t 29] 30,
     iM 8 30])))
   (.ops [iJ (.bin .add) [.t 22, cI 1] 31,
    iM 22 31])))))))
 (.seq (.seq (.ops [iM 32 8,
  iJ (.call 61) [.t 32] 33,
  iM 34 0,
  iJ (.call 51) [.t 33, .t 34] 35,
  iJ (.un .not) [.t 35] 36])
 (.ite (.t 36) (.seq (.ops [iJ .mv [.c (.pv (.sl true 0 []))] 4,
   iJ .mv [cI 7] 5])
  .ret)
  .skip))
 (.seq (.ops [iM 37 8,
  iM 4 37,
  iJ .mv [cI 0] 5])
 .ret)))))))
theorem fn67 : fnOf Try.prog 67 = some (38, [.t 4, .t 5], ir67) := by kernel_rfl
def ir68 : C :=
 (.seq (.ops [iJ .mv [cI 0] 4])
 (.seq (.seq (.ops [iM 6 0,
  iJ .len [.t 6] 7,
  iJ .mv [cI 0] 8])
 (.block 0 (.loop (.seq (.ops [iJ (.bin .lss) [.t 8, .t 7] 9])
   (.seq (.ite (.t 9) .skip
    (.exit 0))
   (.seq (.block 1 (.seq (.ops [iM 10 8,
     iM 5 10])
    (.seq (.ops [iM 11 1,
     iM 12 0,
     iM 13 5,
     iJ (.iaS 21) [.t 12, .t 13] 14,
     iJ (.ld 21 true) [.t 14] 15,
     iJ .yv [.t 11, .t 15] 16])
    (.ite (.t 16) (.seq (.ops [iM 17 5,
      iM 4 17])
     .ret)
     .skip))))
   (.ops [iJ (.bin .add) [.t 8, cI 1] 18,
    iM 8 18])))))))
 (.seq (.ops [iJ .mv [.c (.pv (.i .i64 (-1)))] 4])
 .ret)))
theorem fn68 : fnOf Try.prog 68 = some (19, [.t 4], ir68) := by kernel_rfl
def ir69 : C :=
 (.seq (.ops [iJ .box [.t 0] 1,
  iJ (.new (.agg [.pv (.i .i64 0), .pv (.i .u32 0), .vec 8 (List.replicate 8 (.i .u32 0)), .pv (.i .i64 0), .pv (.i .i64 0), .pv (.i .u32 0), .pv (.i .i64 0), .pv (.i .u32 0), .pv (.s []), .pv (.sl true 0 []), .pv (.sl true 0 []), .pv (.i .i64 0), .pv (.s []), .pv (.i .i64 0)])) [] 2])
 (.seq (.seq (.ops [iJ (.fa 10) [.t 1] 3,
  iJ (.ld 1 false) [.t 3] 4])
 (.block 0 (.seq (.seq (.ops [iJ (.bin .eql) [.t 4, cI 1] 6,
   iM 5 6])
  (.ite (.t 5) .skip
   (.ops [iJ (.bin .eql) [.t 4, cI 2] 7,
    iM 5 7])))
  (.ite (.t 5) (.ops [iJ (.bld [1, 1]) [cI 0, .c (.pv (.i .u32 0))] 8,
    iJ (.fa 13) [.t 1] 9,
    iO (.sto 2) [.t 9, .t 8],
    iJ (.fa 15) [.t 1] 10,
    iO (.sto 1) [.t 10, .c (.pv (.s []))]])
   (.seq (.ops [iJ (.bin .eql) [.t 4, cI 3] 12,
    iM 11 12])
   (.ite (.t 11) (.ops [iJ (.bld [1, 1]) [cI 0, .c (.pv (.i .u32 0))] 13,
     iJ (.fa 11) [.t 1] 14,
     iO (.sto 2) [.t 14, .t 13],
     iJ (.fa 17) [.t 1] 15,
     iO (.sto 1) [.t 15, .c (.pv (.sl true 0 []))],
     iJ (.fa 18) [.t 1] 16,
     iO (.sto 1) [.t 16, cI 0],
     iJ (.fa 19) [.t 1] 17,
     iO (.sto 1) [.t 17, .c (.pv (.s []))]])
    (.seq (.ops [iJ (.bin .eql) [.t 4, cI 4] 19,
     iM 18 19])
    (.ite (.t 18) (.ops [iJ (.bld [1, 1]) [cI 0, .c (.pv (.i .u32 0))] 20,
      iJ (.fa 11) [.t 1] 21,
      iO (.sto 2) [.t 21, .t 20],
      iJ (.fa 17) [.t 1] 22,
      iO (.sto 1) [.t 22, .c (.pv (.sl true 0 []))],
      iJ (.fa 18) [.t 1] 23,
      iO (.sto 1) [.t 23, cI 0]])
     (.seq (.ops [iJ (.bin .eql) [.t 4, cI 5] 25,
      iM 24 25])
     (.ite (.t 24) (.ops [iJ (.bld [1, 1]) [cI 0, .c (.pv (.i .u32 0))] 26,
       iJ (.fa 11) [.t 1] 27,
       iO (.sto 2) [.t 27, .t 26],
       iJ (.fa 17) [.t 1] 28,
       iO (.sto 1) [.t 28, .c (.pv (.sl true 0 []))],
       iJ (.fa 19) [.t 1] 29,
       iO (.sto 1) [.t 29, .c (.pv (.s []))]])
      (.seq (.ops [iJ (.bin .eql) [.t 4, cI 6] 31,
       iM 30 31])
      (.ite (.t 30) (.ops [iJ (.bld [1, 1]) [cI 0, .c (.pv (.i .u32 0))] 32,
        iJ (.fa 11) [.t 1] 33,
        iO (.sto 2) [.t 33, .t 32],
        iJ (.fa 16) [.t 1] 34,
        iO (.sto 1) [.t 34, .c (.pv (.sl true 0 []))]])
       (.seq (.ops [iJ (.bin .eql) [.t 4, cI 7] 36,
        iM 35 36])
       (.ite (.t 35) (.ops [iJ (.bld [1, 1]) [cI 0, .c (.pv (.i .u32 0))] 37,
         iJ (.bld [1, 1]) [cI 0, .c (.pv (.i .u32 0))] 38,
         iJ (.fa 11) [.t 1] 39,
         iO (.sto 2) [.t 39, .t 37],
         iJ (.fa 16) [.t 1] 40,
         iO (.sto 1) [.t 40, .c (.pv (.sl true 0 []))],
         iJ (.fa 13) [.t 1] 41,
         iO (.sto 2) [.t 41, .t 38],
         iJ (.fa 15) [.t 1] 42,
         iO (.sto 1) [.t 42, .c (.pv (.s []))]])
        (.seq (.ops [iJ (.bin .eql) [.t 4, cI 8] 44,
         iM 43 44])
        (.ite (.t 43) (.ops [iJ (.fa 20) [.t 1] 45,
          iO (.sto 1) [.t 45, cI 0]])
         .skip))))))))))))))))
 (.seq (.ops [iJ (.ld 21 true) [.t 1] 46,
  iO (.sto 21) [.t 2, .t 46]])
 .ret)))
theorem fn69 : fnOf Try.prog 69 = some (47, [.c 2 21 true], ir69) := by kernel_rfl
def ir70 : C :=
 (.seq (.ops [iJ .mv [.c (.pv (.b false))] 2])
 (.seq (.ops [iM 3 0,
  iJ (.bin .geq) [.t 3, cI 0] 4,
  iM 5 4,
  iG .mv [.t 0] 6 5 true,
  iG (.bin .leq) [.t 6, cI 200] 7 5 true,
  iJ .pick [.t 5, .t 7, .c (.pv (.b false))] 8,
  iM 2 8])
 .ret))
theorem fn70 : fnOf Try.prog 70 = some (9, [.t 2], ir70) := by kernel_rfl
def ir71 : C :=
 (.seq (.ops [iJ .box [.t 0] 1,
  iJ .mv [.c (.pv (.b false))] 2])
 (.seq (.ops [iJ (.fa 13) [.t 1] 3,
  iJ (.ld 2 true) [.t 3] 4,
  iJ (.bld [1, 1]) [cI 0, .c (.pv (.i .u32 0))] 5,
  iJ (.eqv false [.int .i64, .int .u32]) [.t 4, .t 5] 6,
  iM 7 6,
  iG (.fa 2) [.t 1] 8 7 false,
  iG (.ld 8 true) [.t 8] 9 7 false,
  iG (.fa 13) [.t 1] 10 7 false,
  iG (.ld 2 true) [.t 10] 11 7 false,
  iG (.call 73) [.t 9, .t 11] 12 7 false,
  iJ .pick [.t 7, .c (.pv (.b true)), .t 12] 13,
  iM 2 13])
 .ret))
theorem fn71 : fnOf Try.prog 71 = some (14, [.t 2], ir71) := by kernel_rfl
def ir72 : C :=
 (.seq (.ops [iJ .mv [.c (.pv (.b false))] 2])
 (.seq (.seq (.ops [iM 5 0,
  iJ .lenS [.t 5] 6,
  iJ (.bin .lss) [.t 6, cI 1] 7,
  iM 8 7,
  iG .mv [.t 0] 9 8 false,
  iG .lenS [.t 9] 10 8 false,
  iG (.bin .gtr) [.t 10, cI 12] 11 8 false,
  iJ .pick [.t 8, .c (.pv (.b true)), .t 11] 12,
  iM 13 12,
  iG .mv [.t 0] 14 13 false,
  iG (.bin .eql) [.t 14, .c (.pv (.s [46]))] 15 13 false,
  iJ .pick [.t 13, .c (.pv (.b true)), .t 15] 16,
  iM 17 16,
  iG .mv [.t 0] 18 17 false,
  iG (.bin .eql) [.t 18, .c (.pv (.s [46, 46]))] 19 17 false,
  iJ .pick [.t 17, .c (.pv (.b true)), .t 19] 20])
 (.ite (.t 20) (.seq (.ops [iJ .mv [.c (.pv (.b false))] 2])
  .ret)
  .skip))
 (.seq (.seq (.ops [iM 21 0,
  iJ .rgs [.t 21] 22])
 (.block 0 (.loop (.seq (.ops [iJ .nxs [.t 22] 23,
    iJ (.ext 0) [.t 23] 24])
   (.seq (.ite (.t 24) .skip
    (.exit 0))
   (.block 1 (.seq (.ops [iJ (.ext 2) [.t 23] 25,
     iM 4 25])
    (.seq (.ops [iM 26 4,
     iJ (.call 82) [.t 26] 27,
     iJ (.un .not) [.t 27] 28,
     iM 29 28,
     iG .mv [.t 4] 30 29 true,
     iG (.bin .lss) [.t 30, .c (.pv (.i .i32 48))] 31 29 true,
     iG .mv [.t 31] 32 29 true,
     iG .mv [.t 4] 33 32 false,
     iG (.bin .gtr) [.t 33, .c (.pv (.i .i32 57))] 34 32 false,
     iG .pick [.t 32, .c (.pv (.b true)), .t 34] 35 29 true,
     iJ .pick [.t 29, .t 35, .c (.pv (.b false))] 36,
     iM 37 36,
     iG .mv [.t 4] 38 37 true,
     iG (.call 83) [.c (.pv (.s [46, 95, 45])), .t 38] 39 37 true,
     iG (.un .not) [.t 39] 40 37 true,
     iJ .pick [.t 37, .t 40, .c (.pv (.b false))] 41])
    (.ite (.t 41) (.seq (.ops [iJ .mv [.c (.pv (.b false))] 2])
     .ret)
     .skip)))))))))
 (.seq (.ops [iJ .mv [.c (.pv (.b true))] 2])
 .ret))))
theorem fn72 : fnOf Try.prog 72 = some (42, [.t 2], ir72) := by kernel_rfl
def ir73 : C :=
 (.seq (.ops [iJ .box [.t 0] 2,
  iJ .box [.t 1] 3,
  iJ .mv [.c (.pv (.b false))] 4])
 (.seq (.any [14] [(iJ (.fa 1) [.t 3] 5, 0, [14]),
  (iJ (.ld 1 false) [.t 5] 6, 1, [14]),
  (iJ (.bin .geq) [.t 6, .c (.pv (.i .u32 1))] 7, 0, [14]),
  (iM 8 7, 0, [14]),
  (iG (.fa 1) [.t 3] 9 8 true, 0, [14]),
  (iG (.ld 1 false) [.t 9] 10 8 true, 1, [14]),
  (iG (.ld 8 true) [.t 2] 11 8 true, 1, [14]),
  (iG (.fa 0) [.t 3] 12 8 true, 0, [14]),
  (iG (.ld 1 false) [.t 12] 13 8 true, 1, [14]),
  (iG (.call 84) [.t 11, .t 13] 14 8 true, 1, [14]),
  (iG (.bin .leq) [.t 10, .t 14] 15 8 true, 0, []),
  (iJ .pick [.t 8, .t 15, .c (.pv (.b false))] 16, 0, [14]),
  (iM 4 16, 0, [])])
 .ret))
theorem fn73 : fnOf Try.prog 73 = some (17, [.t 4], ir73) := by kernel_rfl
def ir74 : C :=
 (.seq (.ops [iJ .box [.t 2] 5,
  iJ .mv [.c (.pv (.b false))] 6])
 (.seq (.seq (.ops [iM 9 0,
  iJ .len [.t 9] 10,
  iM 11 1,
  iJ (.bin .gtr) [.t 10, .t 11] 12])
 (.ite (.t 12) (.seq (.ops [iJ .mv [.c (.pv (.b false))] 6])
  .ret)
  .skip))
 (.seq (.seq (.ops [iM 13 0,
  iJ .len [.t 13] 14,
  iJ .mv [cI 0] 15])
 (.block 0 (.loop (.seq (.ops [iJ (.bin .lss) [.t 15, .t 14] 16])
   (.seq (.ite (.t 16) .skip
    (.exit 0))
   (.seq (.block 1 (.seq (.ops [iM 17 15,
     iJ (.iaS 2) [.t 13, .t 15] 18,
     iJ (.ld 2 true) [.t 18] 19,
     iJ (.new (.agg [.pv (.i .i64 0), .pv (.i .u32 0)])) [] 8,
     iM 7 17,
     iO (.sto 2) [.t 8, .t 19]])
    (.seq (.any [22, 34] [(iJ (.ld 8 true) [.t 5] 20, 1, [22, 34]),
     (iJ (.ld 2 true) [.t 8] 21, 1, [22, 34]),
     (iJ (.call 73) [.t 20, .t 21] 22, 3, [22, 34]),
     (iJ (.un .not) [.t 22] 23, 0, [34]),
     (iM 24 23, 0, [34]),
     (iG .mv [.t 7] 25 24 false, 0, [22, 34]),
     (iG (.bin .gtr) [.t 25, cI 0] 26 24 false, 0, [22, 34]),
     (iG .mv [.t 26] 27 24 false, 0, [22, 34]),
     (iG .mv [.t 0] 28 27 true, 0, [22, 34]),
     (iG .mv [.t 7] 29 27 true, 0, [22, 34]),
     (iG (.bin .sub) [.t 29, cI 1] 30 27 true, 0, [22, 34]),
     (iG (.iaS 2) [.t 28, .t 30] 31 27 true, 1, [22, 34]),
     (iG (.ld 2 true) [.t 31] 32 27 true, 1, [22, 34]),
     (iG (.ld 2 true) [.t 8] 33 27 true, 1, [22, 34]),
     (iG (.call 85) [.t 32, .t 33] 34 27 true, 3, [22, 34]),
     (iG (.un .not) [.t 34] 35 27 true, 0, [22]),
     (iG .pick [.t 27, .t 35, .c (.pv (.b false))] 36 24 false, 0, [22, 34]),
     (iJ .pick [.t 24, .c (.pv (.b true)), .t 36] 37, 0, [22, 34])])
    (.ite (.t 37) (.seq (.ops [iJ .mv [.c (.pv (.b false))] 6])
     .ret)
     .skip))))
   (.ops [iJ (.bin .add) [.t 15, cI 1] 38,
    iM 15 38])))))))
 (.seq (.ops [iJ .mv [.c (.pv (.b true))] 6])
 .ret))))
theorem fn74 : fnOf Try.prog 74 = some (39, [.t 6], ir74) := by kernel_rfl
def ir75 : C :=
 (.seq (.ops [iJ .box [.t 0] 2,
  iJ .mv [.c (.pv (.i .u32 0))] 4])
 (.seq (.seq (.ops [iJ .mv [cI 0] 5])
 (.block 0 (.loop (.seq (.seq (.ops [iM 6 5,
    iJ (.bin .lss) [.t 6, cI 8] 7])
   (.ite (.t 7) .skip
    (.exit 0)))
   (.seq (.block 1 (.seq (.ops [iM 10 5,
     iJ (.bin .add) [.t 10, cI 1] 11,
     iM 12 1,
     iJ (.bin .eql) [.t 11, .t 12] 13])
    (.ite (.t 13) (.seq (.ops [iM 14 5,
      iJ (.iaA 8 1) [.t 2, .t 14] 15,
      iJ (.ld 1 false) [.t 15] 16,
      iM 4 16])
     .ret)
     .skip)))
   (.ops [iM 8 5,
    iJ (.bin .add) [.t 8, cI 1] 9,
    iM 5 9]))))))
 (.seq (.ops [iJ .mv [.c (.pv (.i .u32 0))] 4])
 .ret)))
theorem fn75 : fnOf Try.prog 75 = some (17, [.t 4], ir75) := by kernel_rfl
def ir76 : C :=
 (.seq (.ops [iJ .box [.t 0] 2,
  iJ .box [.t 1] 3,
  iJ .mv [.c (.pv (.b false))] 4])
 (.seq (.any [12] [(iJ (.fa 1) [.t 3] 5, 0, [12]),
  (iJ (.ld 1 false) [.t 5] 6, 1, [12]),
  (iJ (.bin .gtr) [.t 6, .c (.pv (.i .u32 0))] 7, 0, [12]),
  (iM 8 7, 0, [12]),
  (iG (.ld 8 true) [.t 2] 9 8 true, 1, [12]),
  (iG (.fa 0) [.t 3] 10 8 true, 0, [12]),
  (iG (.ld 1 false) [.t 10] 11 8 true, 1, [12]),
  (iG (.call 75) [.t 9, .t 11] 12 8 true, 1, [12]),
  (iG (.fa 1) [.t 3] 13 8 true, 0, [12]),
  (iG (.ld 1 false) [.t 13] 14 8 true, 1, [12]),
  (iG (.bin .geq) [.t 12, .t 14] 15 8 true, 0, []),
  (iJ .pick [.t 8, .t 15, .c (.pv (.b false))] 16, 0, [12]),
  (iM 4 16, 0, [])])
 .ret))
theorem fn76 : fnOf Try.prog 76 = some (17, [.t 4], ir76) := by kernel_rfl
def ir77 : C :=
 (.seq (.ops [iJ .box [.t 0] 1,
  iJ .mv [.c (.pv (.b false))] 2])
 (.seq (.ops [iJ (.fa 0) [.t 1] 3,
  iJ (.ld 1 false) [.t 3] 4,
  iJ (.bin .eql) [.t 4, cI 0] 5,
  iM 6 5,
  iG (.fa 1) [.t 1] 7 6 true,
  iG (.ld 1 false) [.t 7] 8 6 true,
  iG (.bin .eql) [.t 8, .c (.pv (.i .u32 0))] 9 6 true,
  iJ .pick [.t 6, .t 9, .c (.pv (.b false))] 10,
  iM 2 10])
 .ret))
theorem fn77 : fnOf Try.prog 77 = some (11, [.t 2], ir77) := by kernel_rfl
def ir78 : C :=
 (.seq (.ops [iJ .box [.t 1] 3,
  iJ .mv [.c (.pv (.b false))] 4])
 (.seq (.seq (.ops [iJ .mv [cI 0] 5])
 (.block 0 (.loop (.seq (.seq (.ops [iM 6 5,
    iM 7 0,
    iJ .len [.t 7] 8,
    iJ (.bin .lss) [.t 6, .t 8] 9])
   (.ite (.t 9) .skip
    (.exit 0)))
   (.seq (.block 1 (.seq (.any [17, 32] [(iJ (.ld 8 true) [.t 3] 12, 1, [17, 32]),
     (iM 13 0, 0, [17, 32]),
     (iM 14 5, 0, [17, 32]),
     (iJ (.iaS 2) [.t 13, .t 14] 15, 1, [17, 32]),
     (iJ (.ld 2 true) [.t 15] 16, 1, [17, 32]),
     (iJ (.call 76) [.t 12, .t 16] 17, 3, [17, 32]),
     (iJ (.un .not) [.t 17] 18, 0, [32]),
     (iM 19 18, 0, [32]),
     (iG .mv [.t 5] 20 19 false, 0, [17, 32]),
     (iG (.bin .gtr) [.t 20, cI 0] 21 19 false, 0, [17, 32]),
     (iG .mv [.t 21] 22 19 false, 0, [17, 32]),
     (iG .mv [.t 0] 23 22 true, 0, [17, 32]),
     (iG .mv [.t 5] 24 22 true, 0, [17, 32]),
     (iG (.bin .sub) [.t 24, cI 1] 25 22 true, 0, [17, 32]),
     (iG (.iaS 2) [.t 23, .t 25] 26 22 true, 1, [17, 32]),
     (iG (.ld 2 true) [.t 26] 27 22 true, 1, [17, 32]),
     (iG .mv [.t 0] 28 22 true, 0, [17, 32]),
     (iG .mv [.t 5] 29 22 true, 0, [17, 32]),
     (iG (.iaS 2) [.t 28, .t 29] 30 22 true, 1, [17, 32]),
     (iG (.ld 2 true) [.t 30] 31 22 true, 1, [17, 32]),
     (iG (.call 86) [.t 27, .t 31] 32 22 true, 3, [17, 32]),
     (iG (.un .not) [.t 32] 33 22 true, 0, [17]),
     (iG .pick [.t 22, .t 33, .c (.pv (.b false))] 34 19 false, 0, [17, 32]),
     (iJ .pick [.t 19, .c (.pv (.b true)), .t 34] 35, 0, [17, 32])])
    (.ite (.t 35) (.seq (.ops [iJ .mv [.c (.pv (.b false))] 4])
     .ret)
     .skip)))
   (.ops [iM 10 5,
    iJ (.bin .add) [.t 10, cI 1] 11,
    iM 5 11]))))))
 (.seq (.ops [iJ .mv [.c (.pv (.b true))] 4])
 .ret)))
theorem fn78 : fnOf Try.prog 78 = some (36, [.t 4], ir78) := by kernel_rfl
def ir79 : C :=
 (.seq (.ops [iJ .mv [.c (.pv (.b false))] 2])
 (.seq (.seq (.ops [iM 8 0,
  iJ (.bin .eql) [.t 8, .c (.pv (.s []))] 9,
  iM 10 9,
  iG .mv [.t 0] 11 10 false,
  iG .lenS [.t 11] 12 10 false,
  iG (.bin .gtr) [.t 12, cI 12] 13 10 false,
  iJ .pick [.t 10, .c (.pv (.b true)), .t 13] 14,
  iM 15 14,
  iG .mv [.t 0] 16 15 false,
  iG (.bin .eql) [.t 16, .c (.pv (.s [46]))] 17 15 false,
  iJ .pick [.t 15, .c (.pv (.b true)), .t 17] 18,
  iM 19 18,
  iG .mv [.t 0] 20 19 false,
  iG (.bin .eql) [.t 20, .c (.pv (.s [46, 46]))] 21 19 false,
  iJ .pick [.t 19, .c (.pv (.b true)), .t 21] 22])
 (.ite (.t 22) (.seq (.ops [iJ .mv [.c (.pv (.b false))] 2])
  .ret)
  .skip))
 (.seq (.seq (.ops [iJ .mv [cI 0] 3])
 (.block 0 (.loop (.seq (.seq (.ops [iM 23 3,
    iM 24 0,
    iJ .lenS [.t 24] 25,
    iJ (.bin .lss) [.t 23, .t 25] 26])
   (.ite (.t 26) .skip
    (.exit 0)))
   (.seq (.block 1 (.seq (.ops [iM 29 0,
     iM 30 3,
     iJ .ixS [.t 29, .t 30] 31,
     iM 4 31])
    (.seq (.ops [iM 32 4,
     iJ (.bin .geq) [.t 32, .c (.pv (.i .u8 97))] 33,
     iM 34 33,
     iG .mv [.t 4] 35 34 true,
     iG (.bin .leq) [.t 35, .c (.pv (.i .u8 122))] 36 34 true,
     iJ .pick [.t 34, .t 36, .c (.pv (.b false))] 37,
     iM 38 4,
     iJ (.bin .geq) [.t 38, .c (.pv (.i .u8 65))] 39,
     iM 40 39,
     iG .mv [.t 4] 41 40 true,
     iG (.bin .leq) [.t 41, .c (.pv (.i .u8 90))] 42 40 true,
     iJ .pick [.t 40, .t 42, .c (.pv (.b false))] 43,
     iM 44 4,
     iJ (.bin .geq) [.t 44, .c (.pv (.i .u8 48))] 45,
     iM 46 45,
     iG .mv [.t 4] 47 46 true,
     iG (.bin .leq) [.t 47, .c (.pv (.i .u8 57))] 48 46 true,
     iJ .pick [.t 46, .t 48, .c (.pv (.b false))] 49,
     iM 5 37,
     iM 6 43,
     iM 7 49])
    (.seq (.ops [iM 50 5,
     iJ (.un .not) [.t 50] 51,
     iM 52 51,
     iG .mv [.t 6] 53 52 true,
     iG (.un .not) [.t 53] 54 52 true,
     iJ .pick [.t 52, .t 54, .c (.pv (.b false))] 55,
     iM 56 55,
     iG .mv [.t 7] 57 56 true,
     iG (.un .not) [.t 57] 58 56 true,
     iJ .pick [.t 56, .t 58, .c (.pv (.b false))] 59,
     iM 60 59,
     iG .mv [.t 4] 61 60 true,
     iG (.bin .neq) [.t 61, .c (.pv (.i .u8 46))] 62 60 true,
     iJ .pick [.t 60, .t 62, .c (.pv (.b false))] 63,
     iM 64 63,
     iG .mv [.t 4] 65 64 true,
     iG (.bin .neq) [.t 65, .c (.pv (.i .u8 95))] 66 64 true,
     iJ .pick [.t 64, .t 66, .c (.pv (.b false))] 67,
     iM 68 67,
     iG .mv [.t 4] 69 68 true,
     iG (.bin .neq) [.t 69, .c (.pv (.i .u8 45))] 70 68 true,
     iJ .pick [.t 68, .t 70, .c (.pv (.b false))] 71])
    (.ite (.t 71) (.seq (.ops [iJ .mv [.c (.pv (.b false))] 2])
     .ret)
     .skip)))))
   (.ops [iM 27 3,
    iJ (.bin .add) [.t 27, cI 1] 28,
    iM 3 28]))))))
 (.seq (.ops [iJ .mv [.c (.pv (.b true))] 2])
 .ret))))
theorem fn79 : fnOf Try.prog 79 = some (72, [.t 2], ir79) := by kernel_rfl
def ir80 : C :=
 (.seq (.ops [iJ .box [.t 0] 8,
  iJ .mv [.c (.pv (.b false))] 16])
 (.seq (.ops [iM 17 1,
  iM 18 17,
  iG (.fa 11) [.t 8] 19 18 false,
  iG (.ld 2 true) [.t 19] 20 18 false,
  iG (.call 77) [.t 20] 21 18 false,
  iJ .pick [.t 18, .c (.pv (.b true)), .t 21] 22,
  iM 23 22,
  iG .mv [.t 2] 24 23 true,
  iG .mv [.t 24] 25 23 true,
  iG (.fa 13) [.t 8] 26 25 false,
  iG (.ld 2 true) [.t 26] 27 25 false,
  iG (.call 77) [.t 27] 28 25 false,
  iG .mv [.t 28] 29 25 false,
  iG (.fa 15) [.t 8] 30 29 true,
  iG (.ld 1 false) [.t 30] 31 29 true,
  iG (.bin .eql) [.t 31, .c (.pv (.s []))] 32 29 true,
  iG .pick [.t 29, .t 32, .c (.pv (.b false))] 33 25 false,
  iG .pick [.t 25, .c (.pv (.b true)), .t 33] 34 23 true,
  iJ .pick [.t 23, .t 34, .c (.pv (.b false))] 35,
  iM 36 35,
  iG .mv [.t 3] 37 36 true,
  iG .mv [.t 37] 38 36 true,
  iG (.fa 16) [.t 8] 39 38 false,
  iG (.ld 1 false) [.t 39] 40 38 false,
  iG .len [.t 40] 41 38 false,
  iG (.bin .eql) [.t 41, cI 0] 42 38 false,
  iG .pick [.t 38, .c (.pv (.b true)), .t 42] 43 36 true,
  iJ .pick [.t 36, .t 43, .c (.pv (.b false))] 44,
  iM 45 44,
  iG .mv [.t 4] 46 45 true,
  iG .mv [.t 46] 47 45 true,
  iG (.fa 17) [.t 8] 48 47 false,
  iG (.ld 1 false) [.t 48] 49 47 false,
  iG .len [.t 49] 50 47 false,
  iG (.bin .eql) [.t 50, cI 0] 51 47 false,
  iG .pick [.t 47, .c (.pv (.b true)), .t 51] 52 45 true,
  iJ .pick [.t 45, .t 52, .c (.pv (.b false))] 53,
  iM 54 53,
  iG .mv [.t 5] 55 54 true,
  iG .mv [.t 55] 56 54 true,
  iG (.fa 18) [.t 8] 57 56 false,
  iG (.ld 1 false) [.t 57] 58 56 false,
  iG (.bin .eql) [.t 58, cI 0] 59 56 false,
  iG .pick [.t 56, .c (.pv (.b true)), .t 59] 60 54 true,
  iJ .pick [.t 54, .t 60, .c (.pv (.b false))] 61,
  iM 62 61,
  iG .mv [.t 6] 63 62 true,
  iG .mv [.t 63] 64 62 true,
  iG (.fa 19) [.t 8] 65 64 false,
  iG (.ld 1 false) [.t 65] 66 64 false,
  iG (.bin .eql) [.t 66, .c (.pv (.s []))] 67 64 false,
  iG .pick [.t 64, .c (.pv (.b true)), .t 67] 68 62 true,
  iJ .pick [.t 62, .t 68, .c (.pv (.b false))] 69,
  iM 70 69,
  iG .mv [.t 7] 71 70 true,
  iG .mv [.t 71] 72 70 true,
  iG (.fa 20) [.t 8] 73 72 false,
  iG (.ld 1 false) [.t 73] 74 72 false,
  iG (.bin .eql) [.t 74, cI 0] 75 72 false,
  iG .pick [.t 72, .c (.pv (.b true)), .t 75] 76 70 true,
  iJ .pick [.t 70, .t 76, .c (.pv (.b false))] 77,
  iM 16 77])
 .ret))
theorem fn80 : fnOf Try.prog 80 = some (78, [.t 16], ir80) := by kernel_rfl
def ir81 : C :=
 (.seq (.ops [iJ .mv [.c (.pv (.i .u64 0))] 2,
  iJ .mv [cI 0] 3])
 (.seq (.block 0 (.seq (.ops [iM 8 0,
   iJ .len [.t 8] 9,
   iJ (.bin .gtr) [.t 9, cI 8] 10,
   iM 7 10])
  (.ite (.t 7) (.seq (.ops [iJ .mv [.c (.pv (.i .u64 0))] 2,
    iJ .mv [cI 4] 3])
   .ret)
   (.seq (.ops [iM 12 0,
    iJ .len [.t 12] 13,
    iJ (.bin .gtr) [.t 13, cI 0] 14,
    iM 15 14,
    iG .mv [.t 0] 16 15 true,
    iG (.iaS 1) [.t 16, cI 0] 17 15 true,
    iG (.ld 1 false) [.t 17] 18 15 true,
    iG (.bin .eql) [.t 18, .c (.pv (.i .u8 0))] 19 15 true,
    iJ .pick [.t 15, .t 19, .c (.pv (.b false))] 20,
    iM 11 20])
   (.ite (.t 11) (.seq (.ops [iJ .mv [.c (.pv (.i .u64 0))] 2,
     iJ .mv [cI 7] 3])
    .ret)
    .skip)))))
 (.seq (.ops [iJ .mv [.c (.pv (.i .u64 0))] 4])
 (.seq (.seq (.ops [iM 21 0,
  iJ .len [.t 21] 22,
  iJ .mv [cI 0] 23])
 (.block 1 (.loop (.seq (.ops [iJ (.bin .lss) [.t 23, .t 22] 24])
   (.seq (.ite (.t 24) .skip
    (.exit 1))
   (.seq (.block 2 (.seq (.ops [iJ (.iaS 1) [.t 21, .t 23] 25,
     iJ (.ld 1 false) [.t 25] 26,
     iM 6 26])
    (.ops [iM 27 4,
     iJ (.bin .shl) [.t 27, .c (.pv (.i .u64 8))] 28,
     iM 29 6,
     iJ (.cvI .u64) [.t 29] 30,
     iJ (.bin .or) [.t 28, .t 30] 31,
     iM 4 31])))
   (.ops [iJ (.bin .add) [.t 23, cI 1] 32,
    iM 23 32])))))))
 (.seq (.ops [iM 33 4,
  iM 2 33,
  iJ .mv [cI 0] 3])
 .ret)))))
theorem fn81 : fnOf Try.prog 81 = some (34, [.t 2, .t 3], ir81) := by kernel_rfl
def ir82 : C :=
 (.seq (.ops [iJ .mv [.c (.pv (.b false))] 2])
 (.seq (.ops [iM 3 0,
  iJ (.bin .geq) [.t 3, .c (.pv (.i .i32 97))] 4,
  iM 5 4,
  iG .mv [.t 0] 6 5 true,
  iG (.bin .leq) [.t 6, .c (.pv (.i .i32 122))] 7 5 true,
  iJ .pick [.t 5, .t 7, .c (.pv (.b false))] 8,
  iM 9 8,
  iG .mv [.t 0] 10 9 false,
  iG (.bin .geq) [.t 10, .c (.pv (.i .i32 65))] 11 9 false,
  iG .mv [.t 11] 12 9 false,
  iG .mv [.t 0] 13 12 true,
  iG (.bin .leq) [.t 13, .c (.pv (.i .i32 90))] 14 12 true,
  iG .pick [.t 12, .t 14, .c (.pv (.b false))] 15 9 false,
  iJ .pick [.t 9, .c (.pv (.b true)), .t 15] 16,
  iM 2 16])
 .ret))
theorem fn82 : fnOf Try.prog 82 = some (17, [.t 2], ir82) := by kernel_rfl
def ir83 : C :=
 (.seq (.ops [iJ .mv [.c (.pv (.b false))] 4])
 (.seq (.ops [iM 5 0,
  iM 6 1,
  iJ (.call 87) [.t 5, .t 6] 7,
  iJ (.bin .geq) [.t 7, cI 0] 8,
  iM 4 8])
 .ret))
theorem fn83 : fnOf Try.prog 83 = some (9, [.t 4], ir83) := by kernel_rfl
def ir84 : C :=
 (.seq (.ops [iJ .box [.t 0] 2,
  iJ .mv [.c (.pv (.i .u32 0))] 4])
 (.seq (.seq (.ops [iM 5 1,
  iJ (.bin .lss) [.t 5, cI 1] 6,
  iM 7 6,
  iG .mv [.t 1] 8 7 false,
  iG (.bin .gtr) [.t 8, cI 8] 9 7 false,
  iJ .pick [.t 7, .c (.pv (.b true)), .t 9] 10])
 (.ite (.t 10) (.seq (.ops [iJ .mv [.c (.pv (.i .u32 0))] 4])
  .ret)
  .skip))
 (.seq (.ops [iM 11 1,
  iJ (.bin .sub) [.t 11, cI 1] 12,
  iJ (.iaA 8 1) [.t 2, .t 12] 13,
  iJ (.ld 1 false) [.t 13] 14,
  iM 4 14])
 .ret)))
theorem fn84 : fnOf Try.prog 84 = some (15, [.t 4], ir84) := by kernel_rfl
def ir85 : C :=
 (.seq (.ops [iJ .box [.t 0] 2,
  iJ .box [.t 1] 3,
  iJ .mv [.c (.pv (.b false))] 4])
 (.seq (.seq (.ops [iJ (.fa 1) [.t 2] 5,
  iJ (.ld 1 false) [.t 5] 6,
  iJ (.fa 1) [.t 3] 7,
  iJ (.ld 1 false) [.t 7] 8,
  iJ (.bin .neq) [.t 6, .t 8] 9])
 (.ite (.t 9) (.seq (.ops [iJ (.fa 1) [.t 2] 10,
   iJ (.ld 1 false) [.t 10] 11,
   iJ (.fa 1) [.t 3] 12,
   iJ (.ld 1 false) [.t 12] 13,
   iJ (.bin .lss) [.t 11, .t 13] 14,
   iM 4 14])
  .ret)
  .skip))
 (.seq (.ops [iJ (.fa 0) [.t 2] 15,
  iJ (.ld 1 false) [.t 15] 16,
  iJ (.fa 0) [.t 3] 17,
  iJ (.ld 1 false) [.t 17] 18,
  iJ (.bin .lss) [.t 16, .t 18] 19,
  iM 4 19])
 .ret)))
theorem fn85 : fnOf Try.prog 85 = some (20, [.t 4], ir85) := by kernel_rfl
def ir86 : C :=
 (.seq (.ops [iJ .box [.t 0] 2,
  iJ .box [.t 1] 3,
  iJ .mv [.c (.pv (.b false))] 4])
 (.seq (.ops [iJ (.fa 1) [.t 2] 5,
  iJ (.ld 1 false) [.t 5] 6,
  iJ (.fa 1) [.t 3] 7,
  iJ (.ld 1 false) [.t 7] 8,
  iJ (.bin .lss) [.t 6, .t 8] 9,
  iM 10 9,
  iG (.fa 1) [.t 2] 11 10 false,
  iG (.ld 1 false) [.t 11] 12 10 false,
  iG (.fa 1) [.t 3] 13 10 false,
  iG (.ld 1 false) [.t 13] 14 10 false,
  iG (.bin .eql) [.t 12, .t 14] 15 10 false,
  iG .mv [.t 15] 16 10 false,
  iG (.fa 0) [.t 2] 17 16 true,
  iG (.ld 1 false) [.t 17] 18 16 true,
  iG (.fa 0) [.t 3] 19 16 true,
  iG (.ld 1 false) [.t 19] 20 16 true,
  iG (.bin .lss) [.t 18, .t 20] 21 16 true,
  iG .pick [.t 16, .t 21, .c (.pv (.b false))] 22 10 false,
  iJ .pick [.t 10, .c (.pv (.b true)), .t 22] 23,
  iM 4 23])
 .ret))
theorem fn86 : fnOf Try.prog 86 = some (24, [.t 4], ir86) := by kernel_rfl
def ir87 : C :=
 (.seq (.ops [iJ .mv [cI 0] 4])
 (.block 0 (.seq (.ops [iM 161 1,
   iJ (.bin .leq) [.c (.pv (.i .i32 0)), .t 161] 162,
   iM 163 162,
   iG .mv [.t 1] 164 163 true,
   iG (.bin .lss) [.t 164, .c (.pv (.i .i32 128))] 165 163 true,
   iJ .pick [.t 163, .t 165, .c (.pv (.b false))] 166,
   iM 160 166])
  (.ite (.t 160) (.seq (.ops [iM 167 0,
    iM 168 1,
    iJ (.cvI .u8) [.t 168] 169,
    iJ (.call 88) [.t 167, .t 169] 170,
    iM 4 170])
   .ret)
   (.seq (.ops [iM 172 1,
    iJ (.bin .eql) [.t 172, .c (.pv (.i .i32 65533))] 173,
    iM 171 173])
   (.ite (.t 171) (.seq (.seq (.ops [iM 174 0,
     iJ .rgs [.t 174] 175])
    (.block 9 (.loop (.seq (.ops [iJ .nxs [.t 175] 176,
       iJ (.ext 0) [.t 176] 177])
      (.seq (.ite (.t 177) .skip
       (.exit 9))
      (.block 10 (.seq (.ops [iJ (.ext 1) [.t 176] 178,
        iJ (.ext 2) [.t 176] 179,
        iM 5 178,
        iM 6 179])
       (.seq (.ops [iM 180 6,
        iJ (.bin .eql) [.t 180, .c (.pv (.i .i32 65533))] 181])
       (.ite (.t 181) (.seq (.ops [iM 182 5,
         iM 4 182])
        .ret)
        .skip)))))))))
    (.seq (.ops [iJ .mv [.c (.pv (.i .i64 (-1)))] 4])
    .ret))
    (.seq (.ops [iM 184 1,
     iJ (.call 89) [.t 184] 185,
     iJ (.un .not) [.t 185] 186,
     iM 183 186])
    (.ite (.t 183) (.seq (.ops [iJ .mv [.c (.pv (.i .i64 (-1)))] 4])
     .ret)
     (.seq (.ops [iM 17 1,
      iJ .r2s [.t 17] 18,
      iM 7 18])
     (.seq (.ops [iM 19 7,
      iJ .lenS [.t 19] 20,
      iJ (.bin .sub) [.t 20, cI 1] 21,
      iM 8 21])
     (.seq (.ops [iM 22 8,
      iM 9 22])
     (.seq (.ops [iJ .mv [cI 0] 10])
     (.seq (.block 1 (.loop (.seq (.seq (.ops [iM 23 9,
        iM 24 0,
        iJ .lenS [.t 24] 25,
        iJ (.bin .lss) [.t 23, .t 25] 26])
       (.ite (.t 26) .skip
        (.exit 1)))
       (.block 2 (.seq (.seq (.any [] [(iM 27 0, 0, []),
         (iM 28 9, 0, []),
         (iJ .ixS [.t 27, .t 28] 29, 0, []),
         (iM 30 7, 0, []),
         (iM 31 8, 0, []),
         (iJ .ixS [.t 30, .t 31] 32, 0, []),
         (iJ (.bin .neq) [.t 29, .t 32] 33, 0, [])])
        (.ite (.t 33) (.seq (.any [41] [(iM 34 0, 0, [41]),
          (iM 35 9, 0, [41]),
          (iJ (.bin .add) [.t 35, cI 1] 36, 0, [41]),
          (iJ (.sls true false) [.t 34, .t 36] 37, 0, [41]),
          (iM 38 7, 0, [41]),
          (iM 39 8, 0, [41]),
          (iJ .ixS [.t 38, .t 39] 40, 0, [41]),
          (iJ (.call 88) [.t 37, .t 40] 41, 3, [41]),
          (iM 11 41, 0, [])])
         (.seq (.seq (.ops [iM 42 11,
          iJ (.bin .lss) [.t 42, cI 0] 43])
         (.ite (.t 43) (.seq (.ops [iJ .mv [.c (.pv (.i .i64 (-1)))] 4])
          .ret)
          .skip))
         (.ops [iM 44 9,
          iM 45 11,
          iJ (.bin .add) [.t 45, cI 1] 46,
          iJ (.bin .add) [.t 44, .t 46] 47,
          iM 9 47])))
         .skip))
        (.seq (.seq (.ops [iJ .mv [cI 1] 12])
        (.block 3 (.loop (.seq (.seq (.ops [iM 48 12,
           iM 49 7,
           iJ .lenS [.t 49] 50,
           iJ (.bin .lss) [.t 48, .t 50] 51])
          (.ite (.t 51) .skip
           (.exit 3)))
          (.seq (.block 4 (.seq (.any [] [(iM 54 0, 0, []),
            (iM 55 9, 0, []),
            (iM 56 12, 0, []),
            (iJ (.bin .sub) [.t 55, .t 56] 57, 0, []),
            (iJ .ixS [.t 54, .t 57] 58, 0, []),
            (iM 59 7, 0, []),
            (iM 60 8, 0, []),
            (iM 61 12, 0, []),
            (iJ (.bin .sub) [.t 60, .t 61] 62, 0, []),
            (iJ .ixS [.t 59, .t 62] 63, 0, []),
            (iJ (.bin .neq) [.t 58, .t 63] 64, 0, [])])
           (.ite (.t 64) .bad
            .skip)))
          (.ops [iM 52 12,
           iJ (.bin .add) [.t 52, cI 1] 53,
           iM 12 53]))))))
        (.seq (.seq (.ops [iM 65 9,
         iM 66 8,
         iJ (.bin .sub) [.t 65, .t 66] 67,
         iM 4 67])
        .ret)
        (.seq .skip
        (.seq (.ops [iM 68 10,
         iJ (.bin .add) [.t 68, cI 1] 69,
         iM 10 69])
        (.seq (.ops [iM 70 9,
         iJ (.bin .add) [.t 70, cI 1] 71,
         iM 9 71])
        (.seq (.ops [iJ .mv [.c (.pv (.b true))] 72,
         iG .mv [.t 10] 73 72 true,
         iG .mv [.t 9] 74 72 true,
         iG (.call 90) [.t 74] 75 72 true,
         iG (.bin .gtr) [.t 73, .t 75] 76 72 true,
         iJ .pick [.t 72, .t 76, .c (.pv (.b false))] 77,
         iM 78 77,
         iG .mv [.t 9] 79 78 true,
         iG .mv [.t 0] 80 78 true,
         iG .lenS [.t 80] 81 78 true,
         iG (.bin .lss) [.t 79, .t 81] 82 78 true,
         iJ .pick [.t 78, .t 82, .c (.pv (.b false))] 83,
         iM 84 83,
         iG .mv [.c (.pv (.b false))] 85 84 false,
         iG .mv [.t 10] 86 85 true,
         iG .mv [.t 9] 87 85 true,
         iG (.bin .shr) [.t 87, .c (.pv (.i .u64 4))] 88 85 true,
         iG (.bin .add) [cI 4, .t 88] 89 85 true,
         iG (.bin .geq) [.t 86, .t 89] 90 85 true,
         iG .pick [.t 85, .t 90, .c (.pv (.b false))] 91 84 false,
         iG .mv [.t 91] 92 84 false,
         iG .mv [.t 9] 93 92 true,
         iG .mv [.t 0] 94 92 true,
         iG .lenS [.t 94] 95 92 true,
         iG (.bin .lss) [.t 93, .t 95] 96 92 true,
         iG .pick [.t 92, .t 96, .c (.pv (.b false))] 97 84 false,
         iJ .pick [.t 84, .c (.pv (.b true)), .t 97] 98])
        (.ite (.t 98) .bad
         .skip))))))))))))
     (.seq (.seq (.ops [iJ .mv [.c (.pv (.i .i64 (-1)))] 4])
     .ret)
     (.seq .skip
     (.seq (.ite (.c (.pv (.b true))) (.seq (.ops [iM 99 0,
       iM 100 9,
       iM 101 8,
       iJ (.bin .sub) [.t 100, .t 101] 102,
       iJ (.sls true false) [.t 99, .t 102] 103,
       iM 104 1,
       iJ .r2s [.t 104] 105,
       iJ (.call 91) [.t 103, .t 105] 106,
       iM 13 106])
      (.seq (.ops [iM 107 13,
       iJ (.bin .geq) [.t 107, cI 0] 108])
      (.ite (.t 108) (.seq (.ops [iM 109 9,
        iM 110 13,
        iJ (.bin .add) [.t 109, .t 110] 111,
        iM 112 8,
        iJ (.bin .sub) [.t 111, .t 112] 113,
        iM 4 113])
       .ret)
       .skip)))
      (.seq (.ops [iM 114 7,
       iM 115 8,
       iJ .ixS [.t 114, .t 115] 116,
       iM 14 116])
      (.seq (.ops [iM 117 7,
       iM 118 8,
       iJ (.bin .sub) [.t 118, cI 1] 119,
       iJ .ixS [.t 117, .t 119] 120,
       iM 15 120])
      (.seq .skip
      (.block 5 (.loop (.seq (.seq (.ops [iM 121 9,
         iM 122 0,
         iJ .lenS [.t 122] 123,
         iJ (.bin .lss) [.t 121, .t 123] 124])
        (.ite (.t 124) .skip
         (.exit 5)))
        (.seq (.block 6 (.seq (.ops [iM 127 0,
          iM 128 9,
          iJ .ixS [.t 127, .t 128] 129,
          iM 130 14,
          iJ (.bin .eql) [.t 129, .t 130] 131,
          iM 132 131,
          iG .mv [.t 0] 133 132 true,
          iG .mv [.t 9] 134 132 true,
          iG (.bin .sub) [.t 134, cI 1] 135 132 true,
          iG .ixS [.t 133, .t 135] 136 132 true,
          iG .mv [.t 15] 137 132 true,
          iG (.bin .eql) [.t 136, .t 137] 138 132 true,
          iJ .pick [.t 132, .t 138, .c (.pv (.b false))] 139])
         (.ite (.t 139) (.seq (.seq (.ops [iJ .mv [cI 2] 16])
          (.block 7 (.loop (.seq (.seq (.ops [iM 140 16,
             iM 141 7,
             iJ .lenS [.t 141] 142,
             iJ (.bin .lss) [.t 140, .t 142] 143])
            (.ite (.t 143) .skip
             (.exit 7)))
            (.seq (.block 8 (.seq (.any [] [(iM 146 0, 0, []),
              (iM 147 9, 0, []),
              (iM 148 16, 0, []),
              (iJ (.bin .sub) [.t 147, .t 148] 149, 0, []),
              (iJ .ixS [.t 146, .t 149] 150, 0, []),
              (iM 151 7, 0, []),
              (iM 152 8, 0, []),
              (iM 153 16, 0, []),
              (iJ (.bin .sub) [.t 152, .t 153] 154, 0, []),
              (iJ .ixS [.t 151, .t 154] 155, 0, []),
              (iJ (.bin .neq) [.t 150, .t 155] 156, 0, [])])
             (.ite (.t 156) (.exit 6)
              .skip)))
            (.ops [iM 144 16,
             iJ (.bin .add) [.t 144, cI 1] 145,
             iM 16 145]))))))
          (.seq (.ops [iM 157 9,
           iM 158 8,
           iJ (.bin .sub) [.t 157, .t 158] 159,
           iM 4 159])
          .ret))
          .skip)))
        (.ops [iM 125 9,
         iJ (.bin .add) [.t 125, cI 1] 126,
         iM 9 126])))))))))
     (.seq (.ops [iJ .mv [.c (.pv (.i .i64 (-1)))] 4])
     .ret)))))))))))))))))
theorem fn87 : fnOf Try.prog 87 = some (187, [.t 4], ir87) := by kernel_rfl
def ir88 : C :=
 (.seq (.ops [iJ .mv [cI 0] 4])
 (.seq (.ops [iM 5 0,
  iM 6 1,
  iJ (.call 92) [.t 5, .t 6] 7,
  iM 4 7])
 .ret))
theorem fn88 : fnOf Try.prog 88 = some (8, [.t 4], ir88) := by kernel_rfl
def ir89 : C :=
 (.seq (.ops [iJ .mv [.c (.pv (.b false))] 2])
 (.seq (.block 0 (.seq (.ops [iM 4 0,
   iJ (.bin .leq) [.c (.pv (.i .i32 0)), .t 4] 5,
   iM 6 5,
   iG .mv [.t 0] 7 6 true,
   iG (.bin .lss) [.t 7, .c (.pv (.i .i32 55296))] 8 6 true,
   iJ .pick [.t 6, .t 8, .c (.pv (.b false))] 9,
   iM 3 9])
  (.ite (.t 3) (.seq (.ops [iJ .mv [.c (.pv (.b true))] 2])
   .ret)
   (.seq (.ops [iM 11 0,
    iJ (.bin .lss) [.c (.pv (.i .i32 57343)), .t 11] 12,
    iM 13 12,
    iG .mv [.t 0] 14 13 true,
    iG (.bin .leq) [.t 14, .c (.pv (.i .i32 1114111))] 15 13 true,
    iJ .pick [.t 13, .t 15, .c (.pv (.b false))] 16,
    iM 10 16])
   (.ite (.t 10) (.seq (.ops [iJ .mv [.c (.pv (.b true))] 2])
    .ret)
    .skip)))))
 (.seq (.ops [iJ .mv [.c (.pv (.b false))] 2])
 .ret)))
theorem fn89 : fnOf Try.prog 89 = some (17, [.t 2], ir89) := by kernel_rfl
def ir92 : C :=
 (.seq (.ops [iJ .mv [cI 0] 4])
 (.seq (.ops [iM 5 0,
  iM 6 1,
  iJ (.call 93) [.t 5, .t 6] 7,
  iM 4 7])
 .ret))
theorem fn92 : fnOf Try.prog 92 = some (8, [.t 4], ir92) := by kernel_rfl
end Go.Proofs.Ytfkmlmckihmihaa.Fw
