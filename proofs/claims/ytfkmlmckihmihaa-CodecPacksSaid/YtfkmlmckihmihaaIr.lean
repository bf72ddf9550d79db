/- The functions of the program in the small language, each checked against the program. -/
import Derived.Test.YtfkmlmckihmihaaFwD
import Derived.Test.YtfkmlmckihmihaaProg
import Derived.ProofKit
set_option linter.unusedVariables false
set_option linter.unusedSimpArgs false
set_option linter.unusedSectionVars false
set_option maxRecDepth 100000
namespace Go.Proofs.Ytfkmlmckihmihaa.Fw
open Go.Proofs
theorem mixed : Try.prog.follows .mixedOrders = true := by kernel_rfl
def ir8 : C :=
 (.seq (.ops [iJ .mv [.c (.pv (.b false))] 4])
 (.seq (.seq (.ops [iJ (.call 22) [] 13,
  iJ (.un .not) [.t 13] 14,
  iM 15 14,
  iG .mv [.t 0] 16 15 false,
  iG (.call 23) [.t 16] 17 15 false,
  iG (.un .not) [.t 17] 18 15 false,
  iJ .pick [.t 15, .c (.pv (.b true)), .t 18] 19])
 (.ite (.t 19) (.seq (.ops [iJ (.call 22) [] 20,
   iM 4 20])
  .ret)
  .skip))
 (.seq (.seq (.ops [iM 21 1])
 (.ite (.t 21) (.seq (.anyP [23, 25, 26, 27, 28, 29] [(iJ (.bsl 1) [] 23, 2, [23, 25, 26, 27, 28, 29], [], 0),
   (iM 24 0, 0, [23, 25, 26, 27, 28, 29], [], 1),
   (iJ (.app 1 24) [.t 23, .t 24] 25, 2, [25, 26, 27, 28, 29], [], 2),
   (iJ (.mks [.i .u8 0] 1) [cI 65536, cI 65536] 26, 1, [23, 25, 26, 27, 28, 29], [0, 2], 3),
   (iJ (.bsl 1) [.t 26] 27, 2, [23, 25, 27, 28, 29], [0, 2], 4),
   (iJ (.app 1 24) [.t 25, .t 27] 28, 2, [23, 26, 28, 29], [], 5),
   (iJ (.call 24) [.t 28] 29, 2, [23, 25, 26, 27, 29], [], 6),
   (iM 22 29, 0, [23, 25, 26, 27, 28], [], 7),
   (iJ (.ext 0) [.t 22] 30, 0, [23, 25, 26, 27, 28, 29], [], 8),
   (iJ (.ext 1) [.t 22] 31, 0, [23, 25, 26, 27, 28, 29], [], 9),
   (iM 5 30, 0, [], [], 10),
   (iM 6 31, 0, [], [], 11)])
  (.seq (.ops [iM 32 6,
   iJ (.bin .eql) [.t 32, cI 4] 33,
   iM 4 33])
  .ret))
  .skip))
 (.seq (.ops [iM 35 0,
  iJ (.call 24) [.t 35] 36,
  iM 34 36,
  iJ (.ext 0) [.t 34] 37,
  iJ (.ext 1) [.t 34] 38,
  iM 7 37,
  iM 8 38])
 (.seq (.ops [iM 40 0,
  iJ (.call 26) [.t 40] 41,
  iJ (.call 25) [.t 41] 42,
  iM 39 42,
  iJ (.ext 0) [.t 39] 43,
  iJ (.ext 1) [.t 39] 44,
  iM 9 43,
  iM 10 44])
 (.seq (.ops [iM 46 7,
  iM 47 0,
  iJ .len [.t 47] 48,
  iJ (.call 27) [.t 46, .t 48] 49,
  iM 45 49,
  iJ (.ext 0) [.t 45] 50,
  iJ (.ext 1) [.t 45] 51,
  iM 11 50,
  iM 12 51])
 (.seq (.ops [iM 52 8,
  iJ (.bin .eql) [.t 52, cI 0] 53,
  iM 54 53,
  iG .mv [.t 12] 55 54 true,
  iG (.bin .eql) [.t 55, cI 0] 56 54 true,
  iJ .pick [.t 54, .t 56, .c (.pv (.b false))] 57,
  iM 58 57,
  iG .mv [.t 7] 59 58 true,
  iG .b2s [.t 59] 60 58 true,
  iG .mv [.t 9] 61 58 true,
  iG (.bin .eql) [.t 60, .t 61] 62 58 true,
  iJ .pick [.t 58, .t 62, .c (.pv (.b false))] 63,
  iM 64 63,
  iG .mv [.t 11] 65 64 true,
  iG (.call 26) [.t 65] 66 64 true,
  iG .mv [.t 0] 67 64 true,
  iG (.call 26) [.t 67] 68 64 true,
  iG (.call 28) [.t 66, .t 68] 69 64 true,
  iJ .pick [.t 64, .t 69, .c (.pv (.b false))] 70,
  iM 4 70])
 .ret)))))))
theorem fn8 : fnOf Try.prog 8 = some (71, [.t 4], ir8) := by kernel_rfl
def ir22 : C :=
 (.seq (.ops [iJ .mv [.c (.pv (.b false))] 0])
 (.seq (.ops [iJ (.bsl 1) [.c (.pv (.i .u8 97))] 6,
  iJ .b2b [.t 6] 7,
  iJ (.bsl 1) [.t 7, .c (.pv (.sl true 0 []))] 8,
  iJ (.call 24) [.t 8] 9,
  iM 5 9,
  iJ (.ext 0) [.t 5] 10,
  iJ (.ext 1) [.t 5] 11,
  iM 1 10,
  iM 2 11])
 (.seq (.ops [iM 13 1,
  iJ (.call 27) [.t 13, cI 2] 14,
  iM 12 14,
  iJ (.ext 0) [.t 12] 15,
  iJ (.ext 1) [.t 12] 16,
  iM 3 15,
  iM 4 16])
 (.seq (.ops [iM 17 2,
  iJ (.bin .eql) [.t 17, cI 0] 18,
  iM 19 18,
  iG .mv [.t 4] 20 19 true,
  iG (.bin .eql) [.t 20, cI 0] 21 19 true,
  iJ .pick [.t 19, .t 21, .c (.pv (.b false))] 22,
  iM 23 22,
  iG .mv [.t 1] 24 23 true,
  iG .b2s [.t 24] 25 23 true,
  iG (.bin .eql) [.t 25, .c (.pv (.s [1, 97, 0]))] 26 23 true,
  iJ .pick [.t 23, .t 26, .c (.pv (.b false))] 27,
  iM 28 27,
  iG .mv [.t 3] 29 28 true,
  iG .len [.t 29] 30 28 true,
  iG (.bin .eql) [.t 30, cI 2] 31 28 true,
  iJ .pick [.t 28, .t 31, .c (.pv (.b false))] 32,
  iM 33 32,
  iG .mv [.t 3] 34 33 true,
  iG (.iaS 1) [.t 34, cI 0] 35 33 true,
  iG (.ld 1 false) [.t 35] 36 33 true,
  iG .b2s [.t 36] 37 33 true,
  iG (.bin .eql) [.t 37, .c (.pv (.s [97]))] 38 33 true,
  iJ .pick [.t 33, .t 38, .c (.pv (.b false))] 39,
  iM 0 39])
 .ret))))
theorem fn22 : fnOf Try.prog 22 = some (40, [.t 0], ir22) := by kernel_rfl
def ir23 : C :=
 (.seq (.ops [iJ .mv [.c (.pv (.b false))] 2])
 (.seq (.ops [iJ .mv [cI 3000] 3])
 (.seq (.seq (.ops [iM 6 0,
  iJ .len [.t 6] 7,
  iJ .mv [cI 0] 8])
 (.block 0 (.loop (.seq (.ops [iJ (.bin .lss) [.t 8, .t 7] 9])
   (.seq (.ite (.t 9) .skip
    (.exit 0))
   (.seq (.block 1 (.seq (.ops [iJ (.iaS 1) [.t 6, .t 8] 10,
     iJ (.ld 1 false) [.t 10] 11,
     iM 5 11])
    (.seq (.ops [iM 12 3,
     iM 13 5,
     iJ .len [.t 13] 14,
     iJ .mn [.t 14, cI 3000] 15,
     iJ (.bin .add) [.t 15, cI 1] 16,
     iJ (.bin .sub) [.t 12, .t 16] 17,
     iM 3 17])
    (.seq (.ops [iM 18 3,
     iJ (.bin .lss) [.t 18, cI 0] 19])
    (.ite (.t 19) (.seq (.ops [iJ .mv [.c (.pv (.b false))] 2])
     .ret)
     .skip)))))
   (.ops [iJ (.bin .add) [.t 8, cI 1] 20,
    iM 8 20])))))))
 (.seq (.ops [iJ .mv [.c (.pv (.b true))] 2])
 .ret))))
theorem fn23 : fnOf Try.prog 23 = some (21, [.t 2], ir23) := by kernel_rfl
def ir24 : C :=
 (.seq (.ops [iJ .mv [.c (.pv (.sl true 0 []))] 2,
  iJ .mv [cI 0] 3])
 (.seq (.ops [iJ (.bsl 1) [] 8,
  iM 4 8])
 (.seq (.seq (.ops [iM 9 0,
  iJ .len [.t 9] 10,
  iJ .mv [cI 0] 11])
 (.block 0 (.loop (.seq (.ops [iJ (.bin .lss) [.t 11, .t 10] 12])
   (.seq (.ite (.t 12) .skip
    (.exit 0))
   (.seq (.block 1 (.seq (.ops [iJ (.iaS 1) [.t 9, .t 11] 13,
     iJ (.ld 1 false) [.t 13] 14,
     iM 6 14])
    (.seq (.seq (.ops [iM 15 6,
     iJ .len [.t 15] 16,
     iM 7 16])
    (.block 2 (.seq (.ops [iM 26 7,
      iJ (.bin .gtr) [.t 26, cI 65535] 27,
      iM 25 27])
     (.ite (.t 25) (.seq (.ops [iJ .mv [.c (.pv (.sl true 0 []))] 2,
       iJ .mv [cI 4] 3])
      .ret)
      (.seq (.ops [iM 29 7,
       iJ (.bin .lss) [.t 29, cI 255] 30,
       iM 28 30])
      (.ite (.t 28) (.ops [iM 31 4,
        iM 32 7,
        iJ (.cvI .u8) [.t 32] 33,
        iJ (.bsl 1) [.t 33] 34,
        iJ (.app 1 1) [.t 31, .t 34] 35,
        iM 4 35])
       (.ops [iM 17 4,
        iM 18 7,
        iJ (.bin .shr) [.t 18, .c (.pv (.i .u64 8))] 19,
        iJ (.cvI .u8) [.t 19] 20,
        iM 21 7,
        iJ (.cvI .u8) [.t 21] 22,
        iJ (.bsl 1) [.c (.pv (.i .u8 255)), .t 20, .t 22] 23,
        iJ (.app 1 1) [.t 17, .t 23] 24,
        iM 4 24])))))))
    (.ops [iM 36 4,
     iM 37 6,
     iJ (.app 1 1) [.t 36, .t 37] 38,
     iM 4 38]))))
   (.ops [iJ (.bin .add) [.t 11, cI 1] 39,
    iM 11 39])))))))
 (.seq (.ops [iM 40 4,
  iM 2 40,
  iJ .mv [cI 0] 3])
 .ret))))
theorem fn24 : fnOf Try.prog 24 = some (41, [.t 2, .t 3], ir24) := by kernel_rfl
def ir25 : C :=
 (.seq (.ops [iJ .mv [.c (.pv (.s []))] 2,
  iJ .mv [cI 0] 3])
 (.seq (.ops [iJ .mv [.c (.pv (.s []))] 4])
 (.seq (.seq (.ops [iJ .mv [cI 0] 5])
 (.block 0 (.loop (.seq (.seq (.ops [iM 8 5,
    iM 9 0,
    iJ .len [.t 9] 10,
    iJ (.bin .lss) [.t 8, .t 10] 11])
   (.ite (.t 11) .skip
    (.exit 0)))
   (.seq (.block 1 (.seq (.ops [iM 15 0,
     iM 16 5,
     iJ (.iaS 1) [.t 15, .t 16] 17,
     iJ (.ld 1 false) [.t 17] 18,
     iJ (.call 42) [.t 18] 19,
     iM 14 19,
     iJ (.ext 0) [.t 14] 20,
     iJ (.ext 1) [.t 14] 21,
     iM 6 20,
     iM 7 21])
    (.seq (.seq (.ops [iM 22 7,
     iJ (.un .not) [.t 22] 23])
    (.ite (.t 23) (.seq (.ops [iJ .mv [.c (.pv (.s []))] 2,
      iJ .mv [cI 4] 3])
     .ret)
     .skip))
    (.ops [iM 24 4,
     iM 25 6,
     iJ (.bin .add) [.t 24, .t 25] 26,
     iM 4 26]))))
   (.ops [iM 12 5,
    iJ (.bin .add) [.t 12, cI 1] 13,
    iM 5 13]))))))
 (.seq (.ops [iM 27 4,
  iM 2 27,
  iJ .mv [cI 0] 3])
 .ret))))
theorem fn25 : fnOf Try.prog 25 = some (28, [.t 2, .t 3], ir25) := by kernel_rfl
def ir26 : C :=
 (.seq (.ops [iJ .mv [.c (.pv (.sl true 0 []))] 2])
 (.seq (.ops [iJ .mv [.c (.pv (.sl true 0 []))] 3])
 (.seq (.seq (.ops [iM 6 0,
  iJ .len [.t 6] 7,
  iJ .mv [cI 0] 8])
 (.block 0 (.loop (.seq (.ops [iJ (.bin .lss) [.t 8, .t 7] 9])
   (.seq (.ite (.t 9) .skip
    (.exit 0))
   (.seq (.block 1 (.seq (.ops [iJ (.iaS 1) [.t 6, .t 8] 10,
     iJ (.ld 1 false) [.t 10] 11,
     iM 5 11])
    (.ops [iM 12 3,
     iM 13 5,
     iJ .b2s [.t 13] 14,
     iJ (.bsl 1) [.t 14] 15,
     iJ (.app 1 16) [.t 12, .t 15] 16,
     iM 3 16])))
   (.ops [iJ (.bin .add) [.t 8, cI 1] 17,
    iM 8 17])))))))
 (.seq (.ops [iM 18 3,
  iM 2 18])
 .ret))))
theorem fn26 : fnOf Try.prog 26 = some (19, [.t 2], ir26) := by kernel_rfl
def ir27 : C :=
 (.seq (.ops [iJ .box [.t 1] 3,
  iJ (.new (.pv (.sl true 0 []))) [] 4,
  iJ (.new (.pv (.i .i64 0))) [] 5])
 (.seq (.ops [iJ (.new (.pv (.sl true 0 []))) [] 6])
 (.seq (.seq (.ops [iM 9 0,
  iJ (.call 43) [.t 9] 10])
 (.block 0 (.rng (.t 10) [11, 12] (.seq (.ops [iM 7 11])
   (.ops [iM 8 12]))
   (.block 1 (.seq (.seq (.ops [iM 13 8,
     iJ (.bin .neq) [.t 13, cI 0] 14])
    (.ite (.t 14) (.seq (.ops [iM 15 8,
      iO (.sto 1) [.t 4, .c (.pv (.sl true 0 []))],
      iO (.sto 1) [.t 5, .t 15]])
     .ret)
     .skip))
    (.seq (.seq (.ops [iJ (.ld 1 false) [.t 6] 16,
     iJ .len [.t 16] 17,
     iJ (.ld 1 false) [.t 3] 18,
     iJ (.bin .geq) [.t 17, .t 18] 19])
    (.ite (.t 19) (.seq (.ops [iO (.sto 1) [.t 4, .c (.pv (.sl true 0 []))],
      iO (.sto 1) [.t 5, cI 4]])
     .ret)
     .skip))
    (.ops [iJ (.ld 1 false) [.t 6] 20,
     iM 21 7,
     iJ (.bsl 1) [.t 21] 22,
     iJ (.app 1 24) [.t 20, .t 22] 23,
     iO (.sto 1) [.t 6, .t 23]])))))))
 (.seq (.ops [iJ (.ld 1 false) [.t 6] 24,
  iO (.sto 1) [.t 4, .t 24],
  iO (.sto 1) [.t 5, cI 0]])
 .ret))))
theorem fn27 : fnOf Try.prog 27 = some (25, [.c 4 1 false, .c 5 1 false], ir27) := by kernel_rfl
def ir28 : C :=
 (.seq (.ops [iJ .mv [.c (.pv (.b false))] 4])
 (.seq (.seq (.ops [iM 6 0,
  iJ .len [.t 6] 7,
  iM 8 1,
  iJ .len [.t 8] 9,
  iJ (.bin .neq) [.t 7, .t 9] 10])
 (.ite (.t 10) (.seq (.ops [iJ .mv [.c (.pv (.b false))] 4])
  .ret)
  .skip))
 (.seq (.seq (.ops [iM 11 0,
  iJ .len [.t 11] 12,
  iJ .mv [cI 0] 13])
 (.block 0 (.loop (.seq (.ops [iJ (.bin .lss) [.t 13, .t 12] 14])
   (.seq (.ite (.t 14) .skip
    (.exit 0))
   (.seq (.block 1 (.seq (.ops [iM 15 13,
     iM 5 15])
    (.seq (.any [] [(iM 16 0, 0, []),
     (iM 17 5, 0, []),
     (iJ (.iaS 1) [.t 16, .t 17] 18, 1, []),
     (iJ (.ld 1 false) [.t 18] 19, 1, []),
     (iM 20 1, 0, []),
     (iM 21 5, 0, []),
     (iJ (.iaS 1) [.t 20, .t 21] 22, 1, []),
     (iJ (.ld 1 false) [.t 22] 23, 1, []),
     (iJ (.bin .neq) [.t 19, .t 23] 24, 0, [])])
    (.ite (.t 24) (.seq (.ops [iJ .mv [.c (.pv (.b false))] 4])
     .ret)
     .skip))))
   (.ops [iJ (.bin .add) [.t 13, cI 1] 25,
    iM 13 25])))))))
 (.seq (.ops [iJ .mv [.c (.pv (.b true))] 4])
 .ret))))
theorem fn28 : fnOf Try.prog 28 = some (26, [.t 4], ir28) := by kernel_rfl
def ir42 : C :=
 (.seq (.ops [iJ .mv [.c (.pv (.s []))] 2,
  iJ .mv [.c (.pv (.b false))] 3])
 (.seq (.ops [iM 5 0,
  iJ .lenS [.t 5] 6,
  iM 4 6])
 (.seq (.seq (.ops [iM 7 4,
  iJ (.bin .gtr) [.t 7, cI 65535] 8])
 (.ite (.t 8) (.seq (.ops [iJ .mv [.c (.pv (.s []))] 2,
   iJ .mv [.c (.pv (.b false))] 3])
  .ret)
  .skip))
 (.seq (.seq (.ops [iM 9 4,
  iJ (.bin .lss) [.t 9, cI 255] 10])
 (.ite (.t 10) (.seq (.ops [iM 11 4,
   iJ (.cvI .u8) [.t 11] 12,
   iJ (.bsl 1) [.t 12] 13,
   iJ .b2s [.t 13] 14,
   iM 15 0,
   iJ (.bin .add) [.t 14, .t 15] 16,
   iM 2 16,
   iJ .mv [.c (.pv (.b true))] 3])
  .ret)
  .skip))
 (.seq (.ops [iM 17 4,
  iJ (.bin .quo) [.t 17, cI 256] 18,
  iJ (.cvI .u8) [.t 18] 19,
  iM 20 4,
  iJ (.bin .rem) [.t 20, cI 256] 21,
  iJ (.cvI .u8) [.t 21] 22,
  iJ (.bsl 1) [.c (.pv (.i .u8 255)), .t 19, .t 22] 23,
  iJ .b2s [.t 23] 24,
  iM 25 0,
  iJ (.bin .add) [.t 24, .t 25] 26,
  iM 2 26,
  iJ .mv [.c (.pv (.b true))] 3])
 .ret)))))
theorem fn42 : fnOf Try.prog 42 = some (27, [.t 2, .t 3], ir42) := by kernel_rfl
def ir43 : C :=
 (.seq (.ops [iJ .mv [.c (.pv (.v .nilFunc))] 2])
 (.seq (.ops [iJ (.bsl 1) [] 4,
  iM 5 0,
  iJ (.app 1 1) [.t 4, .t 5] 6,
  iJ (.new (.pv (.sl true 0 []))) [] 3,
  iO (.sto 1) [.t 3, .t 6]])
 (.seq (.ops [iJ (.mkf (.func 52)) [.t 3] 7,
  iM 2 7])
 .ret)))
theorem fn43 : fnOf Try.prog 43 = some (8, [.t 2], ir43) := by kernel_rfl
def ir52 : C :=
 (.seq (.ops [iJ (.ld 1 false) [.t 1] 7,
  iM 3 7])
 (.block 0 (.loop (.seq (.seq (.ops [iM 8 3,
    iJ .len [.t 8] 9,
    iJ (.bin .gtr) [.t 9, cI 0] 10])
   (.ite (.t 10) .skip
    (.exit 0)))
   (.block 1 (.seq (.ops [iM 12 3,
     iJ (.call 53) [.t 12] 13,
     iM 11 13,
     iJ (.ext 0) [.t 11] 14,
     iJ (.ext 1) [.t 11] 15,
     iJ (.ext 2) [.t 11] 16,
     iM 4 14,
     iM 5 15,
     iM 6 16])
    (.seq (.seq (.ops [iM 17 6,
     iJ (.bin .eql) [.t 17, cI 0] 18,
     iM 19 18,
     iG .mv [.t 4] 20 19 true,
     iG .mv [.t 3] 21 19 true,
     iG .len [.t 21] 22 19 true,
     iG .mv [.t 5] 23 19 true,
     iG (.bin .sub) [.t 22, .t 23] 24 19 true,
     iG (.bin .gtr) [.t 20, .t 24] 25 19 true,
     iJ .pick [.t 19, .t 25, .c (.pv (.b false))] 26])
    (.ite (.t 26) (.ops [iJ .mv [cI 8] 6])
     .skip))
    (.seq (.seq (.ops [iM 27 6,
     iJ (.bin .neq) [.t 27, cI 0] 28])
    (.ite (.t 28) (.seq (.ops [iM 29 0,
      iM 30 6,
      iJ .yv [.t 29, .c (.pv (.sl true 0 [])), .t 30] 31])
     .ret)
     .skip))
    (.seq (.seq (.ops [iM 32 0,
     iJ (.bsl 1) [] 33,
     iM 34 3,
     iM 35 5,
     iM 36 5,
     iM 37 4,
     iJ (.bin .add) [.t 36, .t 37] 38,
     iJ (.slc 1 true true false) [.t 34, .t 35, .t 38] 39,
     iJ (.app 1 1) [.t 33, .t 39] 40,
     iJ .yv [.t 32, .t 40, cI 0] 41,
     iJ (.un .not) [.t 41] 42])
    (.ite (.t 42) .ret
     .skip))
    (.ops [iM 43 3,
     iM 44 5,
     iM 45 4,
     iJ (.bin .add) [.t 44, .t 45] 46,
     iJ (.slc 1 true false false) [.t 43, .t 46] 47,
     iM 3 47]))))))))))
theorem fn52 : fnOf Try.prog 52 = some (48, [], ir52) := by kernel_rfl
def ir53 : C :=
 (.seq (.ops [iJ .mv [cI 0] 2,
  iJ .mv [cI 0] 3,
  iJ .mv [cI 0] 4])
 (.seq (.seq (.ops [iM 6 0,
  iJ (.iaS 1) [.t 6, cI 0] 7,
  iJ (.ld 1 false) [.t 7] 8,
  iJ (.bin .lss) [.t 8, .c (.pv (.i .u8 255))] 9])
 (.ite (.t 9) (.seq (.ops [iM 10 0,
   iJ (.iaS 1) [.t 10, cI 0] 11,
   iJ (.ld 1 false) [.t 11] 12,
   iJ (.cvI .i64) [.t 12] 13,
   iM 2 13,
   iJ .mv [cI 1] 3,
   iJ .mv [cI 0] 4])
  .ret)
  .skip))
 (.seq (.seq (.ops [iM 14 0,
  iJ .len [.t 14] 15,
  iJ (.bin .lss) [.t 15, cI 3] 16])
 (.ite (.t 16) (.seq (.ops [iJ .mv [cI 0] 2,
   iJ .mv [cI 0] 3,
   iJ .mv [cI 8] 4])
  .ret)
  .skip))
 (.seq (.any [] [(iM 17 0, 0, []),
  (iJ (.iaS 1) [.t 17, cI 1] 18, 1, []),
  (iJ (.ld 1 false) [.t 18] 19, 1, []),
  (iJ (.cvI .i64) [.t 19] 20, 0, []),
  (iJ (.bin .shl) [.t 20, .c (.pv (.i .u64 8))] 21, 0, []),
  (iM 22 0, 0, []),
  (iJ (.iaS 1) [.t 22, cI 2] 23, 1, []),
  (iJ (.ld 1 false) [.t 23] 24, 1, []),
  (iJ (.cvI .i64) [.t 24] 25, 0, []),
  (iJ (.bin .or) [.t 21, .t 25] 26, 0, []),
  (iM 5 26, 0, [])])
 (.seq (.seq (.ops [iM 27 5,
  iJ (.bin .lss) [.t 27, cI 255] 28])
 (.ite (.t 28) (.seq (.ops [iJ .mv [cI 0] 2,
   iJ .mv [cI 0] 3,
   iJ .mv [cI 7] 4])
  .ret)
  .skip))
 (.seq (.ops [iM 29 5,
  iM 2 29,
  iJ .mv [cI 3] 3,
  iJ .mv [cI 0] 4])
 .ret))))))
theorem fn53 : fnOf Try.prog 53 = some (30, [.t 2, .t 3, .t 4], ir53) := by kernel_rfl
end Go.Proofs.Ytfkmlmckihmihaa.Fw
