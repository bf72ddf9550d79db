/- The functions of the program in the small language, each checked against the program. -/
import Derived.Test.YtchaijijjjcdlaaFwD
import Derived.Test.YtchaijijjjcdlaaProg
import Derived.ProofKit
set_option linter.unusedVariables false
set_option linter.unusedSimpArgs false
set_option linter.unusedSectionVars false
set_option maxRecDepth 100000
namespace Go.Proofs.Ytchaijijjjcdlaa.Fw
open Go.Proofs
theorem mixed : Try.prog.follows .mixedOrders = true := by kernel_rfl
def ir4 : C :=
  (.seq (.ops [⟨.mv, [.c (.pv (.b false))], (some 4), none⟩])
  (.seq (.seq (.ops [⟨(.call 5), [], (some 11), none⟩,
    ⟨(.un .not), [.t 11], (some 12), none⟩,
    ⟨.mv, [.t 12], (some 13), none⟩,
    ⟨.mv, [.t 0], (some 14), (some (13, false))⟩,
    ⟨(.call 6), [.t 14], (some 15), (some (13, false))⟩,
    ⟨(.un .not), [.t 15], (some 16), (some (13, false))⟩,
    ⟨.pick, [.t 13, .c (.pv (.b true)), .t 16], (some 17), none⟩,
    ⟨.mv, [.t 17], (some 18), none⟩,
    ⟨.mv, [.t 1], (some 19), (some (18, false))⟩,
    ⟨(.call 6), [.t 19], (some 20), (some (18, false))⟩,
    ⟨(.un .not), [.t 20], (some 21), (some (18, false))⟩,
    ⟨.pick, [.t 18, .c (.pv (.b true)), .t 21], (some 22), none⟩])
  (.ite (.t 22) (.seq (.ops [⟨(.call 5), [], (some 23), none⟩,
      ⟨.mv, [.t 23], (some 4), none⟩])
    .ret)
    .skip))
  (.seq (.ops [⟨.mv, [.t 0], (some 25), none⟩,
    ⟨(.call 7), [.t 25], (some 26), none⟩,
    ⟨.mv, [.t 26], (some 24), none⟩,
    ⟨(.ext 0), [.t 24], (some 27), none⟩,
    ⟨(.ext 1), [.t 24], (some 28), none⟩,
    ⟨.mv, [.t 27], (some 5), none⟩,
    ⟨.mv, [.t 28], (some 6), none⟩])
  (.seq (.ops [⟨.mv, [.t 1], (some 30), none⟩,
    ⟨(.call 7), [.t 30], (some 31), none⟩,
    ⟨.mv, [.t 31], (some 29), none⟩,
    ⟨(.ext 0), [.t 29], (some 32), none⟩,
    ⟨(.ext 1), [.t 29], (some 33), none⟩,
    ⟨.mv, [.t 32], (some 7), none⟩,
    ⟨.mv, [.t 33], (some 8), none⟩])
  (.seq (.seq (.any [47, 49, 50] [(⟨.mv, [.t 6], (some 34), none⟩, 0, [47, 49, 50]),
    (⟨(.bin .neq), [.t 34, .c (.pv (.i .i64 0))], (some 35), none⟩, 0, [47, 49, 50]),
    (⟨.mv, [.t 35], (some 36), none⟩, 0, [47, 49, 50]),
    (⟨.mv, [.t 8], (some 37), (some (36, false))⟩, 0, [47, 49, 50]),
    (⟨(.bin .neq), [.t 37, .c (.pv (.i .i64 0))], (some 38), (some (36, false))⟩, 0, [47, 49, 50]),
    (⟨.pick, [.t 36, .c (.pv (.b true)), .t 38], (some 39), none⟩, 0, [47, 49, 50]),
    (⟨.mv, [.t 39], (some 40), none⟩, 0, [47, 49, 50]),
    (⟨.mv, [.t 5], (some 41), (some (40, false))⟩, 0, [47, 49, 50]),
    (⟨.b2s, [.t 41], (some 42), (some (40, false))⟩, 1, [47, 49, 50]),
    (⟨.mv, [.t 7], (some 43), (some (40, false))⟩, 0, [47, 49, 50]),
    (⟨.b2s, [.t 43], (some 44), (some (40, false))⟩, 1, [47, 49, 50]),
    (⟨(.bin .eql), [.t 42, .t 44], (some 45), (some (40, false))⟩, 0, [47, 49, 50]),
    (⟨.mv, [.t 0], (some 46), (some (40, false))⟩, 0, [47, 49, 50]),
    (⟨(.call 9), [.t 46], (some 47), (some (40, false))⟩, 1, [47, 49, 50]),
    (⟨.mv, [.t 1], (some 48), (some (40, false))⟩, 0, [47, 49, 50]),
    (⟨(.call 9), [.t 48], (some 49), (some (40, false))⟩, 1, [49, 50]),
    (⟨(.call 11), [.t 47, .t 49], (some 50), (some (40, false))⟩, 1, [50]),
    (⟨(.binB .neq), [.t 45, .t 50], (some 51), (some (40, false))⟩, 0, [47, 49]),
    (⟨.pick, [.t 40, .c (.pv (.b true)), .t 51], (some 52), none⟩, 0, [47, 49, 50])])
  (.ite (.t 52) (.seq (.ops [⟨.mv, [.c (.pv (.b false))], (some 4), none⟩])
    .ret)
    .skip))
  (.seq (.ops [⟨(.bsl 1), [], (some 54), none⟩,
    ⟨.mv, [.t 5], (some 55), none⟩,
    ⟨(.app 1 1), [.t 54, .t 55], (some 56), none⟩,
    ⟨.mv, [.t 7], (some 57), none⟩,
    ⟨(.app 1 1), [.t 56, .t 57], (some 58), none⟩,
    ⟨.mv, [.t 0], (some 59), none⟩,
    ⟨.len, [.t 59], (some 60), none⟩,
    ⟨.mv, [.t 1], (some 61), none⟩,
    ⟨.len, [.t 61], (some 62), none⟩,
    ⟨(.bin .add), [.t 60, .t 62], (some 63), none⟩,
    ⟨(.call 10), [.t 58, .t 63], (some 64), none⟩,
    ⟨.mv, [.t 64], (some 53), none⟩,
    ⟨(.ext 0), [.t 53], (some 65), none⟩,
    ⟨(.ext 1), [.t 53], (some 66), none⟩,
    ⟨.mv, [.t 65], (some 9), none⟩,
    ⟨.mv, [.t 66], (some 10), none⟩])
  (.seq (.ops [⟨.mv, [.t 10], (some 67), none⟩,
    ⟨(.bin .eql), [.t 67, .c (.pv (.i .i64 0))], (some 68), none⟩,
    ⟨.mv, [.t 68], (some 69), none⟩,
    ⟨.mv, [.t 9], (some 70), (some (69, true))⟩,
    ⟨(.call 9), [.t 70], (some 71), (some (69, true))⟩,
    ⟨.mv, [.t 0], (some 72), (some (69, true))⟩,
    ⟨(.call 9), [.t 72], (some 73), (some (69, true))⟩,
    ⟨.mv, [.t 1], (some 74), (some (69, true))⟩,
    ⟨(.call 9), [.t 74], (some 75), (some (69, true))⟩,
    ⟨(.app 1 16), [.t 73, .t 75], (some 76), (some (69, true))⟩,
    ⟨(.call 11), [.t 71, .t 76], (some 77), (some (69, true))⟩,
    ⟨.pick, [.t 69, .t 77, .c (.pv (.b false))], (some 78), none⟩,
    ⟨.mv, [.t 78], (some 4), none⟩])
  .ret)))))))
theorem fn4 : fnOf Try.prog 4 = some (79, [.t 4], ir4) := by kernel_rfl
def ir5 : C :=
  (.seq (.ops [⟨.mv, [.c (.pv (.b false))], (some 0), none⟩])
  (.seq (.ops [⟨(.bsl 1), [.c (.pv (.i .u8 97))], (some 6), none⟩,
    ⟨.b2b, [.t 6], (some 7), none⟩,
    ⟨(.bsl 1), [.t 7, .c (.pv (.sl true 0 []))], (some 8), none⟩,
    ⟨(.call 7), [.t 8], (some 9), none⟩,
    ⟨.mv, [.t 9], (some 5), none⟩,
    ⟨(.ext 0), [.t 5], (some 10), none⟩,
    ⟨(.ext 1), [.t 5], (some 11), none⟩,
    ⟨.mv, [.t 10], (some 1), none⟩,
    ⟨.mv, [.t 11], (some 2), none⟩])
  (.seq (.ops [⟨.mv, [.t 1], (some 13), none⟩,
    ⟨(.call 10), [.t 13, .c (.pv (.i .i64 2))], (some 14), none⟩,
    ⟨.mv, [.t 14], (some 12), none⟩,
    ⟨(.ext 0), [.t 12], (some 15), none⟩,
    ⟨(.ext 1), [.t 12], (some 16), none⟩,
    ⟨.mv, [.t 15], (some 3), none⟩,
    ⟨.mv, [.t 16], (some 4), none⟩])
  (.seq (.ops [⟨.mv, [.t 2], (some 17), none⟩,
    ⟨(.bin .eql), [.t 17, .c (.pv (.i .i64 0))], (some 18), none⟩,
    ⟨.mv, [.t 18], (some 19), none⟩,
    ⟨.mv, [.t 4], (some 20), (some (19, true))⟩,
    ⟨(.bin .eql), [.t 20, .c (.pv (.i .i64 0))], (some 21), (some (19, true))⟩,
    ⟨.pick, [.t 19, .t 21, .c (.pv (.b false))], (some 22), none⟩,
    ⟨.mv, [.t 22], (some 23), none⟩,
    ⟨.mv, [.t 1], (some 24), (some (23, true))⟩,
    ⟨.b2s, [.t 24], (some 25), (some (23, true))⟩,
    ⟨(.bin .eql), [.t 25, .c (.pv (.s [1, 97, 0]))], (some 26), (some (23, true))⟩,
    ⟨.pick, [.t 23, .t 26, .c (.pv (.b false))], (some 27), none⟩,
    ⟨.mv, [.t 27], (some 28), none⟩,
    ⟨.mv, [.t 3], (some 29), (some (28, true))⟩,
    ⟨.len, [.t 29], (some 30), (some (28, true))⟩,
    ⟨(.bin .eql), [.t 30, .c (.pv (.i .i64 2))], (some 31), (some (28, true))⟩,
    ⟨.pick, [.t 28, .t 31, .c (.pv (.b false))], (some 32), none⟩,
    ⟨.mv, [.t 32], (some 33), none⟩,
    ⟨.mv, [.t 3], (some 34), (some (33, true))⟩,
    ⟨(.iaS 1), [.t 34, .c (.pv (.i .i64 0))], (some 35), (some (33, true))⟩,
    ⟨(.ld 1 false), [.t 35], (some 36), (some (33, true))⟩,
    ⟨.b2s, [.t 36], (some 37), (some (33, true))⟩,
    ⟨(.bin .eql), [.t 37, .c (.pv (.s [97]))], (some 38), (some (33, true))⟩,
    ⟨.pick, [.t 33, .t 38, .c (.pv (.b false))], (some 39), none⟩,
    ⟨.mv, [.t 39], (some 0), none⟩])
  .ret))))
theorem fn5 : fnOf Try.prog 5 = some (40, [.t 0], ir5) := by kernel_rfl
def ir6 : C :=
  (.seq (.ops [⟨.mv, [.c (.pv (.b false))], (some 2), none⟩])
  (.seq (.ops [⟨.mv, [.c (.pv (.i .i64 3000))], (some 3), none⟩])
  (.seq (.seq (.ops [⟨.mv, [.t 0], (some 6), none⟩,
    ⟨.len, [.t 6], (some 7), none⟩,
    ⟨.mv, [.c (.pv (.i .i64 0))], (some 8), none⟩])
  (.block 0 (.loop (.seq (.ops [⟨(.bin .lss), [.t 8, .t 7], (some 9), none⟩])
      (.seq (.ite (.t 9) .skip
        (.exit 0))
      (.seq (.block 1 (.seq (.ops [⟨(.iaS 1), [.t 6, .t 8], (some 10), none⟩,
          ⟨(.ld 1 false), [.t 10], (some 11), none⟩,
          ⟨.mv, [.t 11], (some 5), none⟩])
        (.seq (.ops [⟨.mv, [.t 3], (some 12), none⟩,
          ⟨.mv, [.t 5], (some 13), none⟩,
          ⟨.len, [.t 13], (some 14), none⟩,
          ⟨.mn, [.t 14, .c (.pv (.i .i64 3000))], (some 15), none⟩,
          ⟨(.bin .add), [.t 15, .c (.pv (.i .i64 1))], (some 16), none⟩,
          ⟨(.bin .sub), [.t 12, .t 16], (some 17), none⟩,
          ⟨.mv, [.t 17], (some 3), none⟩])
        (.seq (.ops [⟨.mv, [.t 3], (some 18), none⟩,
          ⟨(.bin .lss), [.t 18, .c (.pv (.i .i64 0))], (some 19), none⟩])
        (.ite (.t 19) (.seq (.ops [⟨.mv, [.c (.pv (.b false))], (some 2), none⟩])
          .ret)
          .skip)))))
      (.ops [⟨(.bin .add), [.t 8, .c (.pv (.i .i64 1))], (some 20), none⟩,
        ⟨.mv, [.t 20], (some 8), none⟩])))))))
  (.seq (.ops [⟨.mv, [.c (.pv (.b true))], (some 2), none⟩])
  .ret))))
theorem fn6 : fnOf Try.prog 6 = some (21, [.t 2], ir6) := by kernel_rfl
def ir7 : C :=
  (.seq (.ops [⟨.mv, [.c (.pv (.sl true 0 []))], (some 2), none⟩,
    ⟨.mv, [.c (.pv (.i .i64 0))], (some 3), none⟩])
  (.seq (.ops [⟨(.bsl 1), [], (some 8), none⟩,
    ⟨.mv, [.t 8], (some 4), none⟩])
  (.seq (.seq (.ops [⟨.mv, [.t 0], (some 9), none⟩,
    ⟨.len, [.t 9], (some 10), none⟩,
    ⟨.mv, [.c (.pv (.i .i64 0))], (some 11), none⟩])
  (.block 0 (.loop (.seq (.ops [⟨(.bin .lss), [.t 11, .t 10], (some 12), none⟩])
      (.seq (.ite (.t 12) .skip
        (.exit 0))
      (.seq (.block 1 (.seq (.ops [⟨(.iaS 1), [.t 9, .t 11], (some 13), none⟩,
          ⟨(.ld 1 false), [.t 13], (some 14), none⟩,
          ⟨.mv, [.t 14], (some 6), none⟩])
        (.seq (.seq (.ops [⟨.mv, [.t 6], (some 15), none⟩,
          ⟨.len, [.t 15], (some 16), none⟩,
          ⟨.mv, [.t 16], (some 7), none⟩])
        (.block 2 (.seq (.ops [⟨.mv, [.t 7], (some 26), none⟩,
            ⟨(.bin .gtr), [.t 26, .c (.pv (.i .i64 65535))], (some 27), none⟩,
            ⟨.mv, [.t 27], (some 25), none⟩])
          (.ite (.t 25) (.seq (.ops [⟨.mv, [.c (.pv (.sl true 0 []))], (some 2), none⟩,
              ⟨.mv, [.c (.pv (.i .i64 4))], (some 3), none⟩])
            .ret)
            (.seq (.ops [⟨.mv, [.t 7], (some 29), none⟩,
              ⟨(.bin .lss), [.t 29, .c (.pv (.i .i64 255))], (some 30), none⟩,
              ⟨.mv, [.t 30], (some 28), none⟩])
            (.ite (.t 28) (.ops [⟨.mv, [.t 4], (some 31), none⟩,
                ⟨.mv, [.t 7], (some 32), none⟩,
                ⟨(.cvI .u8), [.t 32], (some 33), none⟩,
                ⟨(.bsl 1), [.t 33], (some 34), none⟩,
                ⟨(.app 1 1), [.t 31, .t 34], (some 35), none⟩,
                ⟨.mv, [.t 35], (some 4), none⟩])
              (.ops [⟨.mv, [.t 4], (some 17), none⟩,
                ⟨.mv, [.t 7], (some 18), none⟩,
                ⟨(.bin .shr), [.t 18, .c (.pv (.i .u64 8))], (some 19), none⟩,
                ⟨(.cvI .u8), [.t 19], (some 20), none⟩,
                ⟨.mv, [.t 7], (some 21), none⟩,
                ⟨(.cvI .u8), [.t 21], (some 22), none⟩,
                ⟨(.bsl 1), [.c (.pv (.i .u8 255)), .t 20, .t 22], (some 23), none⟩,
                ⟨(.app 1 1), [.t 17, .t 23], (some 24), none⟩,
                ⟨.mv, [.t 24], (some 4), none⟩])))))))
        (.ops [⟨.mv, [.t 4], (some 36), none⟩,
          ⟨.mv, [.t 6], (some 37), none⟩,
          ⟨(.app 1 1), [.t 36, .t 37], (some 38), none⟩,
          ⟨.mv, [.t 38], (some 4), none⟩]))))
      (.ops [⟨(.bin .add), [.t 11, .c (.pv (.i .i64 1))], (some 39), none⟩,
        ⟨.mv, [.t 39], (some 11), none⟩])))))))
  (.seq (.ops [⟨.mv, [.t 4], (some 40), none⟩,
    ⟨.mv, [.t 40], (some 2), none⟩,
    ⟨.mv, [.c (.pv (.i .i64 0))], (some 3), none⟩])
  .ret))))
theorem fn7 : fnOf Try.prog 7 = some (41, [.t 2, .t 3], ir7) := by kernel_rfl
def ir9 : C :=
  (.seq (.ops [⟨.mv, [.c (.pv (.sl true 0 []))], (some 2), none⟩])
  (.seq (.ops [⟨.mv, [.c (.pv (.sl true 0 []))], (some 3), none⟩])
  (.seq (.seq (.ops [⟨.mv, [.t 0], (some 6), none⟩,
    ⟨.len, [.t 6], (some 7), none⟩,
    ⟨.mv, [.c (.pv (.i .i64 0))], (some 8), none⟩])
  (.block 0 (.loop (.seq (.ops [⟨(.bin .lss), [.t 8, .t 7], (some 9), none⟩])
      (.seq (.ite (.t 9) .skip
        (.exit 0))
      (.seq (.block 1 (.seq (.ops [⟨(.iaS 1), [.t 6, .t 8], (some 10), none⟩,
          ⟨(.ld 1 false), [.t 10], (some 11), none⟩,
          ⟨.mv, [.t 11], (some 5), none⟩])
        (.ops [⟨.mv, [.t 3], (some 12), none⟩,
          ⟨.mv, [.t 5], (some 13), none⟩,
          ⟨.b2s, [.t 13], (some 14), none⟩,
          ⟨(.bsl 1), [.t 14], (some 15), none⟩,
          ⟨(.app 1 16), [.t 12, .t 15], (some 16), none⟩,
          ⟨.mv, [.t 16], (some 3), none⟩])))
      (.ops [⟨(.bin .add), [.t 8, .c (.pv (.i .i64 1))], (some 17), none⟩,
        ⟨.mv, [.t 17], (some 8), none⟩])))))))
  (.seq (.ops [⟨.mv, [.t 3], (some 18), none⟩,
    ⟨.mv, [.t 18], (some 2), none⟩])
  .ret))))
theorem fn9 : fnOf Try.prog 9 = some (19, [.t 2], ir9) := by kernel_rfl
def ir10 : C :=
  (.seq (.ops [⟨.box, [.t 1], (some 3), none⟩,
    ⟨(.new (.pv (.sl true 0 []))), [], (some 4), none⟩,
    ⟨(.new (.pv (.i .i64 0))), [], (some 5), none⟩])
  (.seq (.ops [⟨(.new (.pv (.sl true 0 []))), [], (some 6), none⟩])
  (.seq (.seq (.ops [⟨.mv, [.t 0], (some 9), none⟩,
    ⟨(.call 13), [.t 9], (some 10), none⟩])
  (.block 0 (.rng (.t 10) [11, 12] (.seq (.ops [⟨.mv, [.t 11], (some 7), none⟩])
      (.ops [⟨.mv, [.t 12], (some 8), none⟩]))
      (.block 1 (.seq (.seq (.ops [⟨.mv, [.t 8], (some 13), none⟩,
          ⟨(.bin .neq), [.t 13, .c (.pv (.i .i64 0))], (some 14), none⟩])
        (.ite (.t 14) (.seq (.ops [⟨.mv, [.t 8], (some 15), none⟩,
            ⟨(.sto 1), [.t 4, .c (.pv (.sl true 0 []))], none, none⟩,
            ⟨(.sto 1), [.t 5, .t 15], none, none⟩])
          .ret)
          .skip))
        (.seq (.seq (.ops [⟨(.ld 1 false), [.t 6], (some 16), none⟩,
          ⟨.len, [.t 16], (some 17), none⟩,
          ⟨(.ld 1 false), [.t 3], (some 18), none⟩,
          ⟨(.bin .geq), [.t 17, .t 18], (some 19), none⟩])
        (.ite (.t 19) (.seq (.ops [⟨(.sto 1), [.t 4, .c (.pv (.sl true 0 []))], none, none⟩,
            ⟨(.sto 1), [.t 5, .c (.pv (.i .i64 4))], none, none⟩])
          .ret)
          .skip))
        (.ops [⟨(.ld 1 false), [.t 6], (some 20), none⟩,
          ⟨.mv, [.t 7], (some 21), none⟩,
          ⟨(.bsl 1), [.t 21], (some 22), none⟩,
          ⟨(.app 1 24), [.t 20, .t 22], (some 23), none⟩,
          ⟨(.sto 1), [.t 6, .t 23], none, none⟩])))))))
  (.seq (.ops [⟨(.ld 1 false), [.t 6], (some 24), none⟩,
    ⟨(.sto 1), [.t 4, .t 24], none, none⟩,
    ⟨(.sto 1), [.t 5, .c (.pv (.i .i64 0))], none, none⟩])
  .ret))))
theorem fn10 : fnOf Try.prog 10 = some (25, [.c 4 1 false, .c 5 1 false], ir10) := by kernel_rfl
def ir11 : C :=
  (.seq (.ops [⟨.mv, [.c (.pv (.b false))], (some 4), none⟩])
  (.seq (.seq (.ops [⟨.mv, [.t 0], (some 6), none⟩,
    ⟨.len, [.t 6], (some 7), none⟩,
    ⟨.mv, [.t 1], (some 8), none⟩,
    ⟨.len, [.t 8], (some 9), none⟩,
    ⟨(.bin .neq), [.t 7, .t 9], (some 10), none⟩])
  (.ite (.t 10) (.seq (.ops [⟨.mv, [.c (.pv (.b false))], (some 4), none⟩])
    .ret)
    .skip))
  (.seq (.seq (.ops [⟨.mv, [.t 0], (some 11), none⟩,
    ⟨.len, [.t 11], (some 12), none⟩,
    ⟨.mv, [.c (.pv (.i .i64 0))], (some 13), none⟩])
  (.block 0 (.loop (.seq (.ops [⟨(.bin .lss), [.t 13, .t 12], (some 14), none⟩])
      (.seq (.ite (.t 14) .skip
        (.exit 0))
      (.seq (.block 1 (.seq (.ops [⟨.mv, [.t 13], (some 15), none⟩,
          ⟨.mv, [.t 15], (some 5), none⟩])
        (.seq (.any [] [(⟨.mv, [.t 0], (some 16), none⟩, 0, []),
          (⟨.mv, [.t 5], (some 17), none⟩, 0, []),
          (⟨(.iaS 1), [.t 16, .t 17], (some 18), none⟩, 1, []),
          (⟨(.ld 1 false), [.t 18], (some 19), none⟩, 1, []),
          (⟨.mv, [.t 1], (some 20), none⟩, 0, []),
          (⟨.mv, [.t 5], (some 21), none⟩, 0, []),
          (⟨(.iaS 1), [.t 20, .t 21], (some 22), none⟩, 1, []),
          (⟨(.ld 1 false), [.t 22], (some 23), none⟩, 1, []),
          (⟨(.bin .neq), [.t 19, .t 23], (some 24), none⟩, 0, [])])
        (.ite (.t 24) (.seq (.ops [⟨.mv, [.c (.pv (.b false))], (some 4), none⟩])
          .ret)
          .skip))))
      (.ops [⟨(.bin .add), [.t 13, .c (.pv (.i .i64 1))], (some 25), none⟩,
        ⟨.mv, [.t 25], (some 13), none⟩])))))))
  (.seq (.ops [⟨.mv, [.c (.pv (.b true))], (some 4), none⟩])
  .ret))))
theorem fn11 : fnOf Try.prog 11 = some (26, [.t 4], ir11) := by kernel_rfl
def ir13 : C :=
  (.seq (.ops [⟨.mv, [.c (.pv (.v .nilFunc))], (some 2), none⟩])
  (.seq (.ops [⟨(.bsl 1), [], (some 4), none⟩,
    ⟨.mv, [.t 0], (some 5), none⟩,
    ⟨(.app 1 1), [.t 4, .t 5], (some 6), none⟩,
    ⟨(.new (.pv (.sl true 0 []))), [], (some 3), none⟩,
    ⟨(.sto 1), [.t 3, .t 6], none, none⟩])
  (.seq (.ops [⟨(.mkf (.func 14)), [.t 3], (some 7), none⟩,
    ⟨.mv, [.t 7], (some 2), none⟩])
  .ret)))
theorem fn13 : fnOf Try.prog 13 = some (8, [.t 2], ir13) := by kernel_rfl
def ir14 : C :=
  (.seq (.ops [⟨(.ld 1 false), [.t 1], (some 7), none⟩,
    ⟨.mv, [.t 7], (some 3), none⟩])
  (.block 0 (.loop (.seq (.seq (.ops [⟨.mv, [.t 3], (some 8), none⟩,
        ⟨.len, [.t 8], (some 9), none⟩,
        ⟨(.bin .gtr), [.t 9, .c (.pv (.i .i64 0))], (some 10), none⟩])
      (.ite (.t 10) .skip
        (.exit 0)))
      (.block 1 (.seq (.ops [⟨.mv, [.t 3], (some 12), none⟩,
          ⟨(.call 15), [.t 12], (some 13), none⟩,
          ⟨.mv, [.t 13], (some 11), none⟩,
          ⟨(.ext 0), [.t 11], (some 14), none⟩,
          ⟨(.ext 1), [.t 11], (some 15), none⟩,
          ⟨(.ext 2), [.t 11], (some 16), none⟩,
          ⟨.mv, [.t 14], (some 4), none⟩,
          ⟨.mv, [.t 15], (some 5), none⟩,
          ⟨.mv, [.t 16], (some 6), none⟩])
        (.seq (.seq (.ops [⟨.mv, [.t 6], (some 17), none⟩,
          ⟨(.bin .eql), [.t 17, .c (.pv (.i .i64 0))], (some 18), none⟩,
          ⟨.mv, [.t 18], (some 19), none⟩,
          ⟨.mv, [.t 4], (some 20), (some (19, true))⟩,
          ⟨.mv, [.t 3], (some 21), (some (19, true))⟩,
          ⟨.len, [.t 21], (some 22), (some (19, true))⟩,
          ⟨.mv, [.t 5], (some 23), (some (19, true))⟩,
          ⟨(.bin .sub), [.t 22, .t 23], (some 24), (some (19, true))⟩,
          ⟨(.bin .gtr), [.t 20, .t 24], (some 25), (some (19, true))⟩,
          ⟨.pick, [.t 19, .t 25, .c (.pv (.b false))], (some 26), none⟩])
        (.ite (.t 26) (.ops [⟨.mv, [.c (.pv (.i .i64 8))], (some 6), none⟩])
          .skip))
        (.seq (.seq (.ops [⟨.mv, [.t 6], (some 27), none⟩,
          ⟨(.bin .neq), [.t 27, .c (.pv (.i .i64 0))], (some 28), none⟩])
        (.ite (.t 28) (.seq (.ops [⟨.mv, [.t 0], (some 29), none⟩,
            ⟨.mv, [.t 6], (some 30), none⟩,
            ⟨.yv, [.t 29, .c (.pv (.sl true 0 [])), .t 30], (some 31), none⟩])
          .ret)
          .skip))
        (.seq (.seq (.ops [⟨.mv, [.t 0], (some 32), none⟩,
          ⟨(.bsl 1), [], (some 33), none⟩,
          ⟨.mv, [.t 3], (some 34), none⟩,
          ⟨.mv, [.t 5], (some 35), none⟩,
          ⟨.mv, [.t 5], (some 36), none⟩,
          ⟨.mv, [.t 4], (some 37), none⟩,
          ⟨(.bin .add), [.t 36, .t 37], (some 38), none⟩,
          ⟨(.slc 1 true true false), [.t 34, .t 35, .t 38], (some 39), none⟩,
          ⟨(.app 1 1), [.t 33, .t 39], (some 40), none⟩,
          ⟨.yv, [.t 32, .t 40, .c (.pv (.i .i64 0))], (some 41), none⟩,
          ⟨(.un .not), [.t 41], (some 42), none⟩])
        (.ite (.t 42) .ret
          .skip))
        (.ops [⟨.mv, [.t 3], (some 43), none⟩,
          ⟨.mv, [.t 5], (some 44), none⟩,
          ⟨.mv, [.t 4], (some 45), none⟩,
          ⟨(.bin .add), [.t 44, .t 45], (some 46), none⟩,
          ⟨(.slc 1 true false false), [.t 43, .t 46], (some 47), none⟩,
          ⟨.mv, [.t 47], (some 3), none⟩]))))))))))
theorem fn14 : fnOf Try.prog 14 = some (48, [], ir14) := by kernel_rfl
def ir15 : C :=
  (.seq (.ops [⟨.mv, [.c (.pv (.i .i64 0))], (some 2), none⟩,
    ⟨.mv, [.c (.pv (.i .i64 0))], (some 3), none⟩,
    ⟨.mv, [.c (.pv (.i .i64 0))], (some 4), none⟩])
  (.seq (.seq (.ops [⟨.mv, [.t 0], (some 6), none⟩,
    ⟨(.iaS 1), [.t 6, .c (.pv (.i .i64 0))], (some 7), none⟩,
    ⟨(.ld 1 false), [.t 7], (some 8), none⟩,
    ⟨(.bin .lss), [.t 8, .c (.pv (.i .u8 255))], (some 9), none⟩])
  (.ite (.t 9) (.seq (.ops [⟨.mv, [.t 0], (some 10), none⟩,
      ⟨(.iaS 1), [.t 10, .c (.pv (.i .i64 0))], (some 11), none⟩,
      ⟨(.ld 1 false), [.t 11], (some 12), none⟩,
      ⟨(.cvI .i64), [.t 12], (some 13), none⟩,
      ⟨.mv, [.t 13], (some 2), none⟩,
      ⟨.mv, [.c (.pv (.i .i64 1))], (some 3), none⟩,
      ⟨.mv, [.c (.pv (.i .i64 0))], (some 4), none⟩])
    .ret)
    .skip))
  (.seq (.seq (.ops [⟨.mv, [.t 0], (some 14), none⟩,
    ⟨.len, [.t 14], (some 15), none⟩,
    ⟨(.bin .lss), [.t 15, .c (.pv (.i .i64 3))], (some 16), none⟩])
  (.ite (.t 16) (.seq (.ops [⟨.mv, [.c (.pv (.i .i64 0))], (some 2), none⟩,
      ⟨.mv, [.c (.pv (.i .i64 0))], (some 3), none⟩,
      ⟨.mv, [.c (.pv (.i .i64 8))], (some 4), none⟩])
    .ret)
    .skip))
  (.seq (.any [] [(⟨.mv, [.t 0], (some 17), none⟩, 0, []),
    (⟨(.iaS 1), [.t 17, .c (.pv (.i .i64 1))], (some 18), none⟩, 1, []),
    (⟨(.ld 1 false), [.t 18], (some 19), none⟩, 1, []),
    (⟨(.cvI .i64), [.t 19], (some 20), none⟩, 0, []),
    (⟨(.bin .shl), [.t 20, .c (.pv (.i .u64 8))], (some 21), none⟩, 0, []),
    (⟨.mv, [.t 0], (some 22), none⟩, 0, []),
    (⟨(.iaS 1), [.t 22, .c (.pv (.i .i64 2))], (some 23), none⟩, 1, []),
    (⟨(.ld 1 false), [.t 23], (some 24), none⟩, 1, []),
    (⟨(.cvI .i64), [.t 24], (some 25), none⟩, 0, []),
    (⟨(.bin .or), [.t 21, .t 25], (some 26), none⟩, 0, []),
    (⟨.mv, [.t 26], (some 5), none⟩, 0, [])])
  (.seq (.seq (.ops [⟨.mv, [.t 5], (some 27), none⟩,
    ⟨(.bin .lss), [.t 27, .c (.pv (.i .i64 255))], (some 28), none⟩])
  (.ite (.t 28) (.seq (.ops [⟨.mv, [.c (.pv (.i .i64 0))], (some 2), none⟩,
      ⟨.mv, [.c (.pv (.i .i64 0))], (some 3), none⟩,
      ⟨.mv, [.c (.pv (.i .i64 7))], (some 4), none⟩])
    .ret)
    .skip))
  (.seq (.ops [⟨.mv, [.t 5], (some 29), none⟩,
    ⟨.mv, [.t 29], (some 2), none⟩,
    ⟨.mv, [.c (.pv (.i .i64 3))], (some 3), none⟩,
    ⟨.mv, [.c (.pv (.i .i64 0))], (some 4), none⟩])
  .ret))))))
theorem fn15 : fnOf Try.prog 15 = some (30, [.t 2, .t 3, .t 4], ir15) := by kernel_rfl
end Go.Proofs.Ytchaijijjjcdlaa.Fw
