/- The functions of the program in the small language, each checked against the program. -/
import Derived.Test.YtjlblbbhmmconaaFwC
import Derived.Test.YtjlblbbhmmconaaProg
import Derived.ProofKit
set_option linter.unusedVariables false
set_option linter.unusedSimpArgs false
set_option linter.unusedSectionVars false
set_option maxRecDepth 100000
namespace Go.Proofs.Ytjlblbbhmmconaa.Fw
open Go.Proofs
theorem mixed : Try.prog.follows .mixedOrders = true := by kernel_rfl
def ir12 : C :=
  (.seq (.ops [⟨.box, [.t 1], (some 4), none⟩,
    ⟨.box, [.t 2], (some 5), none⟩,
    ⟨.mv, [.c (.pv (.b false))], (some 6), none⟩])
  (.seq (.seq (.ops [⟨(.call 39), [], (some 14), none⟩,
    ⟨(.un .not), [.t 14], (some 15), none⟩,
    ⟨.mv, [.t 15], (some 16), none⟩,
    ⟨.mv, [.t 0], (some 17), (some (16, false))⟩,
    ⟨.len, [.t 17], (some 18), (some (16, false))⟩,
    ⟨(.bin .gtr), [.t 18, .c (.pv (.i .i64 300))], (some 19), (some (16, false))⟩,
    ⟨.pick, [.t 16, .c (.pv (.b true)), .t 19], (some 20), none⟩])
  (.ite (.t 20) (.seq (.ops [⟨(.call 39), [], (some 21), none⟩,
      ⟨.mv, [.t 21], (some 6), none⟩])
    .ret)
    .skip))
  (.seq (.ops [⟨(.bsl 1), [], (some 22), none⟩,
    ⟨.mv, [.t 0], (some 23), none⟩,
    ⟨(.app 1 1), [.t 22, .t 23], (some 24), none⟩,
    ⟨.mv, [.t 24], (some 7), none⟩])
  (.seq (.ops [⟨.mv, [.t 7], (some 26), none⟩,
    ⟨(.ld 8 true), [.t 4], (some 27), none⟩,
    ⟨(.call 27), [.t 26, .t 27], (some 28), none⟩,
    ⟨.mv, [.t 28], (some 25), none⟩,
    ⟨(.ext 0), [.t 25], (some 29), none⟩,
    ⟨(.ext 1), [.t 25], (some 30), none⟩,
    ⟨(.new (.vec 8 (List.replicate 8 (.i .u32 0)))), [], (some 8), none⟩,
    ⟨(.sto 8), [.t 8, .t 29], none, none⟩,
    ⟨.mv, [.t 30], (some 9), none⟩])
  (.seq (.ops [⟨.mv, [.t 0], (some 32), none⟩,
    ⟨.b2s, [.t 32], (some 33), none⟩,
    ⟨(.ld 8 true), [.t 4], (some 34), none⟩,
    ⟨(.call 41), [.t 33, .t 34], (some 35), none⟩,
    ⟨.mv, [.t 35], (some 31), none⟩,
    ⟨(.ext 0), [.t 31], (some 36), none⟩,
    ⟨(.ext 1), [.t 31], (some 37), none⟩,
    ⟨(.new (.vec 8 (List.replicate 8 (.i .u32 0)))), [], (some 10), none⟩,
    ⟨(.sto 8), [.t 10, .t 36], none, none⟩,
    ⟨.mv, [.t 37], (some 11), none⟩])
  (.seq (.ops [⟨.mv, [.t 7], (some 39), none⟩,
    ⟨(.ld 8 true), [.t 4], (some 40), none⟩,
    ⟨(.ld 8 true), [.t 5], (some 41), none⟩,
    ⟨(.call 24), [.t 39, .t 40, .t 41], (some 42), none⟩,
    ⟨.mv, [.t 42], (some 38), none⟩,
    ⟨(.ext 0), [.t 38], (some 43), none⟩,
    ⟨(.ext 1), [.t 38], (some 44), none⟩,
    ⟨.mv, [.t 43], (some 12), none⟩,
    ⟨.mv, [.t 44], (some 13), none⟩])
  (.seq (.seq (.ops [⟨(.ld 8 true), [.t 8], (some 45), none⟩,
    ⟨(.ld 8 true), [.t 10], (some 46), none⟩,
    ⟨(.eqv true [.int .u32, .int .u32, .int .u32, .int .u32, .int .u32, .int .u32, .int .u32, .int .u32]), [.t 45, .t 46], (some 47), none⟩,
    ⟨.mv, [.t 47], (some 48), none⟩,
    ⟨.mv, [.t 9], (some 49), (some (48, false))⟩,
    ⟨.mv, [.t 11], (some 50), (some (48, false))⟩,
    ⟨(.bin .neq), [.t 49, .t 50], (some 51), (some (48, false))⟩,
    ⟨.pick, [.t 48, .c (.pv (.b true)), .t 51], (some 52), none⟩,
    ⟨.mv, [.t 52], (some 53), none⟩,
    ⟨.mv, [.t 13], (some 54), (some (53, false))⟩,
    ⟨.mv, [.t 9], (some 55), (some (53, false))⟩,
    ⟨(.bin .neq), [.t 54, .t 55], (some 56), (some (53, false))⟩,
    ⟨.pick, [.t 53, .c (.pv (.b true)), .t 56], (some 57), none⟩,
    ⟨.mv, [.t 57], (some 58), none⟩,
    ⟨.mv, [.t 7], (some 59), (some (58, false))⟩,
    ⟨.b2s, [.t 59], (some 60), (some (58, false))⟩,
    ⟨.mv, [.t 0], (some 61), (some (58, false))⟩,
    ⟨.b2s, [.t 61], (some 62), (some (58, false))⟩,
    ⟨(.bin .neq), [.t 60, .t 62], (some 63), (some (58, false))⟩,
    ⟨.pick, [.t 58, .c (.pv (.b true)), .t 63], (some 64), none⟩])
  (.ite (.t 64) (.seq (.ops [⟨.mv, [.c (.pv (.b false))], (some 6), none⟩])
    .ret)
    .skip))
  (.seq (.any [72] [(⟨.mv, [.t 9], (some 65), none⟩, 0, [72]),
    (⟨(.bin .eql), [.t 65, .c (.pv (.i .i64 0))], (some 66), none⟩, 0, [72]),
    (⟨.mv, [.t 66], (some 67), none⟩, 0, [72]),
    (⟨.mv, [.t 12], (some 68), (some (67, true))⟩, 0, [72]),
    (⟨.b2s, [.t 68], (some 69), (some (67, true))⟩, 1, [72]),
    (⟨(.ld 8 true), [.t 10], (some 70), (some (67, true))⟩, 1, [72]),
    (⟨(.ld 8 true), [.t 5], (some 71), (some (67, true))⟩, 1, [72]),
    (⟨(.call 40), [.t 70, .t 71], (some 72), (some (67, true))⟩, 1, [72]),
    (⟨(.bin .eql), [.t 69, .t 72], (some 73), (some (67, true))⟩, 0, []),
    (⟨.pick, [.t 67, .t 73, .c (.pv (.b false))], (some 74), none⟩, 0, [72]),
    (⟨.mv, [.t 74], (some 75), none⟩, 0, []),
    (⟨.mv, [.t 9], (some 76), (some (75, false))⟩, 0, [72]),
    (⟨(.bin .neq), [.t 76, .c (.pv (.i .i64 0))], (some 77), (some (75, false))⟩, 0, [72]),
    (⟨.mv, [.t 77], (some 78), (some (75, false))⟩, 0, [72]),
    (⟨.mv, [.t 12], (some 79), (some (78, true))⟩, 0, [72]),
    (⟨.len, [.t 79], (some 80), (some (78, true))⟩, 1, [72]),
    (⟨(.bin .eql), [.t 80, .c (.pv (.i .i64 0))], (some 81), (some (78, true))⟩, 0, [72]),
    (⟨.pick, [.t 78, .t 81, .c (.pv (.b false))], (some 82), (some (75, false))⟩, 0, [72]),
    (⟨.pick, [.t 75, .c (.pv (.b true)), .t 82], (some 83), none⟩, 0, [72]),
    (⟨.mv, [.t 83], (some 6), none⟩, 0, [])])
  .ret))))))))
theorem fn12 : fnOf Try.prog 12 = some (84, [.t 6], ir12) := by kernel_rfl
def ir22 : C :=
  (.seq (.ops [⟨.box, [.t 0], (some 2), none⟩,
    ⟨.box, [.t 1], (some 3), none⟩,
    ⟨.mv, [.c (.pv (.b false))], (some 4), none⟩])
  (.seq (.ops [⟨(.ld 8 true), [.t 2], (some 5), none⟩,
    ⟨(.ld 8 true), [.t 3], (some 6), none⟩,
    ⟨(.call 26), [.t 5, .t 6], (some 7), none⟩,
    ⟨(.bin .leq), [.t 7, .c (.pv (.i .i64 0))], (some 8), none⟩,
    ⟨.mv, [.t 8], (some 4), none⟩])
  .ret))
theorem fn22 : fnOf Try.prog 22 = some (9, [.t 4], ir22) := by kernel_rfl
def ir23 : C :=
  (.seq (.ops [⟨.box, [.t 0], (some 2), none⟩,
    ⟨.box, [.t 1], (some 3), none⟩,
    ⟨.mv, [.c (.pv (.sl true 0 []))], (some 4), none⟩])
  (.seq (.ops [⟨.mv, [.c (.pv (.i .u8 0))], (some 5), none⟩,
    ⟨.mv, [.c (.pv (.i .u8 0))], (some 6), none⟩])
  (.seq (.ops [⟨.mv, [.c (.pv (.sl true 0 []))], (some 7), none⟩])
  (.seq (.seq (.ops [⟨(.ld 8 true), [.t 2], (some 10), none⟩,
    ⟨.mv, [.c (.pv (.i .i64 0))], (some 11), none⟩])
  (.block 0 (.loop (.seq (.ops [⟨(.bin .lss), [.t 11, .c (.pv (.i .i64 8))], (some 12), none⟩])
      (.seq (.ite (.t 12) .skip
        (.exit 0))
      (.seq (.block 1 (.seq (.ops [⟨.mv, [.t 11], (some 13), none⟩,
          ⟨(.ixA 8 1 false), [.t 10, .t 11], (some 14), none⟩,
          ⟨.mv, [.t 13], (some 8), none⟩,
          ⟨.mv, [.t 14], (some 9), none⟩])
        (.block 2 (.seq (.ops [⟨.mv, [.t 9], (some 16), none⟩,
            ⟨.mv, [.t 8], (some 17), none⟩,
            ⟨(.iaA 8 1), [.t 3, .t 17], (some 18), none⟩,
            ⟨(.ld 1 false), [.t 18], (some 19), none⟩,
            ⟨(.bin .gtr), [.t 16, .t 19], (some 20), none⟩,
            ⟨.mv, [.t 20], (some 15), none⟩])
          (.ite (.t 15) (.seq (.ops [⟨.mv, [.t 5], (some 21), none⟩,
              ⟨.mv, [.t 8], (some 22), none⟩,
              ⟨(.bin .shl), [.c (.pv (.i .u8 1)), .t 22], (some 23), none⟩,
              ⟨(.bin .or), [.t 21, .t 23], (some 24), none⟩,
              ⟨.mv, [.t 24], (some 5), none⟩])
            (.ops [⟨.mv, [.t 7], (some 25), none⟩,
              ⟨.mv, [.t 9], (some 26), none⟩,
              ⟨.mv, [.t 8], (some 27), none⟩,
              ⟨(.iaA 8 1), [.t 3, .t 27], (some 28), none⟩,
              ⟨(.ld 1 false), [.t 28], (some 29), none⟩,
              ⟨(.bin .sub), [.t 26, .t 29], (some 30), none⟩,
              ⟨(.call 46), [.t 30], (some 31), none⟩,
              ⟨(.app 1 1), [.t 25, .t 31], (some 32), none⟩,
              ⟨.mv, [.t 32], (some 7), none⟩]))
            (.seq (.ops [⟨.mv, [.t 9], (some 34), none⟩,
              ⟨.mv, [.t 8], (some 35), none⟩,
              ⟨(.iaA 8 1), [.t 3, .t 35], (some 36), none⟩,
              ⟨(.ld 1 false), [.t 36], (some 37), none⟩,
              ⟨(.bin .lss), [.t 34, .t 37], (some 38), none⟩,
              ⟨.mv, [.t 38], (some 33), none⟩])
            (.ite (.t 33) (.seq (.ops [⟨.mv, [.t 6], (some 39), none⟩,
                ⟨.mv, [.t 8], (some 40), none⟩,
                ⟨(.bin .shl), [.c (.pv (.i .u8 1)), .t 40], (some 41), none⟩,
                ⟨(.bin .or), [.t 39, .t 41], (some 42), none⟩,
                ⟨.mv, [.t 42], (some 6), none⟩])
              (.ops [⟨.mv, [.t 7], (some 43), none⟩,
                ⟨.mv, [.t 8], (some 44), none⟩,
                ⟨(.iaA 8 1), [.t 3, .t 44], (some 45), none⟩,
                ⟨(.ld 1 false), [.t 45], (some 46), none⟩,
                ⟨.mv, [.t 9], (some 47), none⟩,
                ⟨(.bin .sub), [.t 46, .t 47], (some 48), none⟩,
                ⟨(.call 46), [.t 48], (some 49), none⟩,
                ⟨(.app 1 1), [.t 43, .t 49], (some 50), none⟩,
                ⟨.mv, [.t 50], (some 7), none⟩]))
              .skip)))))))
      (.ops [⟨(.bin .add), [.t 11, .c (.pv (.i .i64 1))], (some 51), none⟩,
        ⟨.mv, [.t 51], (some 11), none⟩])))))))
  (.seq (.ops [⟨.mv, [.t 5], (some 52), none⟩,
    ⟨.mv, [.t 6], (some 53), none⟩,
    ⟨(.bsl 1), [.t 52, .t 53], (some 54), none⟩,
    ⟨.mv, [.t 7], (some 55), none⟩,
    ⟨(.app 1 1), [.t 54, .t 55], (some 56), none⟩,
    ⟨.mv, [.t 56], (some 4), none⟩])
  .ret)))))
theorem fn23 : fnOf Try.prog 23 = some (57, [.t 4], ir23) := by kernel_rfl
def ir24 : C :=
  (.seq (.ops [⟨.box, [.t 1], (some 4), none⟩,
    ⟨.box, [.t 2], (some 5), none⟩,
    ⟨.mv, [.c (.pv (.sl true 0 []))], (some 6), none⟩,
    ⟨.mv, [.c (.pv (.i .i64 0))], (some 7), none⟩])
  (.seq (.ops [⟨.mv, [.t 0], (some 11), none⟩,
    ⟨(.ld 8 true), [.t 4], (some 12), none⟩,
    ⟨(.call 27), [.t 11, .t 12], (some 13), none⟩,
    ⟨.mv, [.t 13], (some 10), none⟩,
    ⟨(.ext 0), [.t 10], (some 14), none⟩,
    ⟨(.ext 1), [.t 10], (some 15), none⟩,
    ⟨(.new (.vec 8 (List.replicate 8 (.i .u32 0)))), [], (some 8), none⟩,
    ⟨(.sto 8), [.t 8, .t 14], none, none⟩,
    ⟨.mv, [.t 15], (some 9), none⟩])
  (.seq (.seq (.ops [⟨.mv, [.t 9], (some 16), none⟩,
    ⟨(.bin .neq), [.t 16, .c (.pv (.i .i64 0))], (some 17), none⟩])
  (.ite (.t 17) (.seq (.ops [⟨.mv, [.t 9], (some 18), none⟩,
      ⟨.mv, [.c (.pv (.sl true 0 []))], (some 6), none⟩,
      ⟨.mv, [.t 18], (some 7), none⟩])
    .ret)
    .skip))
  (.seq (.ops [⟨(.ld 8 true), [.t 8], (some 19), none⟩,
    ⟨(.ld 8 true), [.t 5], (some 20), none⟩,
    ⟨(.call 23), [.t 19, .t 20], (some 21), none⟩,
    ⟨.mv, [.t 21], (some 6), none⟩,
    ⟨.mv, [.c (.pv (.i .i64 0))], (some 7), none⟩])
  .ret))))
theorem fn24 : fnOf Try.prog 24 = some (22, [.t 6, .t 7], ir24) := by kernel_rfl
def ir25 : C :=
  (.seq (.ops [⟨.mv, [.c (.pv (.i .i64 0))], (some 4), none⟩,
    ⟨.mv, [.c (.pv (.i .i64 0))], (some 5), none⟩])
  (.seq (.ops [⟨.mv, [.t 0], (some 13), none⟩,
    ⟨(.call 47), [.t 13], (some 14), none⟩,
    ⟨.mv, [.t 14], (some 12), none⟩,
    ⟨(.ext 0), [.t 12], (some 15), none⟩,
    ⟨(.ext 1), [.t 12], (some 16), none⟩,
    ⟨(.new (.vec 8 (List.replicate 8 (.i .i64 0)))), [], (some 6), none⟩,
    ⟨(.sto 8), [.t 6, .t 15], none, none⟩,
    ⟨.mv, [.t 16], (some 7), none⟩])
  (.seq (.seq (.ops [⟨.mv, [.t 7], (some 17), none⟩,
    ⟨(.bin .neq), [.t 17, .c (.pv (.i .i64 0))], (some 18), none⟩])
  (.ite (.t 18) (.seq (.ops [⟨.mv, [.t 7], (some 19), none⟩,
      ⟨.mv, [.c (.pv (.i .i64 0))], (some 4), none⟩,
      ⟨.mv, [.t 19], (some 5), none⟩])
    .ret)
    .skip))
  (.seq (.ops [⟨.mv, [.t 1], (some 21), none⟩,
    ⟨(.call 47), [.t 21], (some 22), none⟩,
    ⟨.mv, [.t 22], (some 20), none⟩,
    ⟨(.ext 0), [.t 20], (some 23), none⟩,
    ⟨(.ext 1), [.t 20], (some 24), none⟩,
    ⟨(.new (.vec 8 (List.replicate 8 (.i .i64 0)))), [], (some 8), none⟩,
    ⟨(.sto 8), [.t 8, .t 23], none, none⟩,
    ⟨.mv, [.t 24], (some 7), none⟩])
  (.seq (.seq (.ops [⟨.mv, [.t 7], (some 25), none⟩,
    ⟨(.bin .neq), [.t 25, .c (.pv (.i .i64 0))], (some 26), none⟩])
  (.ite (.t 26) (.seq (.ops [⟨.mv, [.t 7], (some 27), none⟩,
      ⟨.mv, [.c (.pv (.i .i64 0))], (some 4), none⟩,
      ⟨.mv, [.t 27], (some 5), none⟩])
    .ret)
    .skip))
  (.seq (.ops [⟨.mv, [.c (.pv (.b false))], (some 9), none⟩,
    ⟨.mv, [.c (.pv (.b false))], (some 10), none⟩])
  (.seq (.seq (.ops [⟨.mv, [.c (.pv (.i .i64 0))], (some 28), none⟩])
  (.block 0 (.loop (.seq (.ops [⟨(.bin .lss), [.t 28, .c (.pv (.i .i64 8))], (some 29), none⟩])
      (.seq (.ite (.t 29) .skip
        (.exit 0))
      (.seq (.block 1 (.seq (.ops [⟨.mv, [.t 28], (some 30), none⟩,
          ⟨.mv, [.t 30], (some 11), none⟩])
        (.any [] [(⟨.mv, [.t 9], (some 31), none⟩, 0, []),
          (⟨.mv, [.t 31], (some 32), none⟩, 0, []),
          (⟨.mv, [.t 11], (some 33), (some (32, false))⟩, 0, []),
          (⟨(.iaA 8 1), [.t 6, .t 33], (some 34), (some (32, false))⟩, 0, []),
          (⟨(.ld 1 false), [.t 34], (some 35), (some (32, false))⟩, 1, []),
          (⟨.mv, [.t 11], (some 36), (some (32, false))⟩, 0, []),
          (⟨(.iaA 8 1), [.t 8, .t 36], (some 37), (some (32, false))⟩, 0, []),
          (⟨(.ld 1 false), [.t 37], (some 38), (some (32, false))⟩, 1, []),
          (⟨(.bin .lss), [.t 35, .t 38], (some 39), (some (32, false))⟩, 0, []),
          (⟨.pick, [.t 32, .c (.pv (.b true)), .t 39], (some 40), none⟩, 0, []),
          (⟨.mv, [.t 10], (some 41), none⟩, 0, []),
          (⟨.mv, [.t 41], (some 42), none⟩, 0, []),
          (⟨.mv, [.t 11], (some 43), (some (42, false))⟩, 0, []),
          (⟨(.iaA 8 1), [.t 6, .t 43], (some 44), (some (42, false))⟩, 0, []),
          (⟨(.ld 1 false), [.t 44], (some 45), (some (42, false))⟩, 1, []),
          (⟨.mv, [.t 11], (some 46), (some (42, false))⟩, 0, []),
          (⟨(.iaA 8 1), [.t 8, .t 46], (some 47), (some (42, false))⟩, 0, []),
          (⟨(.ld 1 false), [.t 47], (some 48), (some (42, false))⟩, 1, []),
          (⟨(.bin .gtr), [.t 45, .t 48], (some 49), (some (42, false))⟩, 0, []),
          (⟨.pick, [.t 42, .c (.pv (.b true)), .t 49], (some 50), none⟩, 0, []),
          (⟨.mv, [.t 40], (some 9), none⟩, 0, []),
          (⟨.mv, [.t 50], (some 10), none⟩, 0, [])])))
      (.ops [⟨(.bin .add), [.t 28, .c (.pv (.i .i64 1))], (some 51), none⟩,
        ⟨.mv, [.t 51], (some 28), none⟩])))))))
  (.seq (.block 2 (.seq (.ops [⟨.mv, [.t 9], (some 53), none⟩,
      ⟨.mv, [.t 53], (some 54), none⟩,
      ⟨.mv, [.t 10], (some 55), (some (54, true))⟩,
      ⟨.pick, [.t 54, .t 55, .c (.pv (.b false))], (some 56), none⟩,
      ⟨.mv, [.t 56], (some 52), none⟩])
    (.ite (.t 52) (.seq (.ops [⟨.mv, [.c (.pv (.i .i64 2))], (some 4), none⟩,
        ⟨.mv, [.c (.pv (.i .i64 0))], (some 5), none⟩])
      .ret)
      (.seq (.ops [⟨.mv, [.t 9], (some 58), none⟩,
        ⟨.mv, [.t 58], (some 57), none⟩])
      (.ite (.t 57) (.seq (.ops [⟨.mv, [.c (.pv (.i .i64 (-1)))], (some 4), none⟩,
          ⟨.mv, [.c (.pv (.i .i64 0))], (some 5), none⟩])
        .ret)
        (.seq (.ops [⟨.mv, [.t 10], (some 60), none⟩,
          ⟨.mv, [.t 60], (some 59), none⟩])
        (.ite (.t 59) (.seq (.ops [⟨.mv, [.c (.pv (.i .i64 1))], (some 4), none⟩,
            ⟨.mv, [.c (.pv (.i .i64 0))], (some 5), none⟩])
          .ret)
          .skip)))))))
  (.seq (.ops [⟨.mv, [.c (.pv (.i .i64 0))], (some 4), none⟩,
    ⟨.mv, [.c (.pv (.i .i64 0))], (some 5), none⟩])
  .ret)))))))))
theorem fn25 : fnOf Try.prog 25 = some (61, [.t 4, .t 5], ir25) := by kernel_rfl
def ir26 : C :=
  (.seq (.ops [⟨.box, [.t 0], (some 2), none⟩,
    ⟨.box, [.t 1], (some 3), none⟩,
    ⟨.mv, [.c (.pv (.i .i64 0))], (some 4), none⟩])
  (.seq (.ops [⟨.mv, [.c (.pv (.b false))], (some 5), none⟩,
    ⟨.mv, [.c (.pv (.b false))], (some 6), none⟩])
  (.seq (.seq (.ops [⟨.mv, [.c (.pv (.i .i64 0))], (some 7), none⟩])
  (.block 0 (.loop (.seq (.seq (.ops [⟨.mv, [.t 7], (some 8), none⟩,
        ⟨(.bin .lss), [.t 8, .c (.pv (.i .i64 8))], (some 9), none⟩])
      (.ite (.t 9) .skip
        (.exit 0)))
      (.seq (.block 1 (.seq (.any [] [(⟨.mv, [.t 5], (some 12), none⟩, 0, []),
          (⟨.mv, [.t 12], (some 13), none⟩, 0, []),
          (⟨.mv, [.t 7], (some 14), (some (13, false))⟩, 0, []),
          (⟨(.iaA 8 1), [.t 2, .t 14], (some 15), (some (13, false))⟩, 0, []),
          (⟨(.ld 1 false), [.t 15], (some 16), (some (13, false))⟩, 1, []),
          (⟨.mv, [.t 7], (some 17), (some (13, false))⟩, 0, []),
          (⟨(.iaA 8 1), [.t 3, .t 17], (some 18), (some (13, false))⟩, 0, []),
          (⟨(.ld 1 false), [.t 18], (some 19), (some (13, false))⟩, 1, []),
          (⟨(.bin .lss), [.t 16, .t 19], (some 20), (some (13, false))⟩, 0, []),
          (⟨.pick, [.t 13, .c (.pv (.b true)), .t 20], (some 21), none⟩, 0, []),
          (⟨.mv, [.t 21], (some 5), none⟩, 0, [])])
        (.any [] [(⟨.mv, [.t 6], (some 22), none⟩, 0, []),
          (⟨.mv, [.t 22], (some 23), none⟩, 0, []),
          (⟨.mv, [.t 7], (some 24), (some (23, false))⟩, 0, []),
          (⟨(.iaA 8 1), [.t 2, .t 24], (some 25), (some (23, false))⟩, 0, []),
          (⟨(.ld 1 false), [.t 25], (some 26), (some (23, false))⟩, 1, []),
          (⟨.mv, [.t 7], (some 27), (some (23, false))⟩, 0, []),
          (⟨(.iaA 8 1), [.t 3, .t 27], (some 28), (some (23, false))⟩, 0, []),
          (⟨(.ld 1 false), [.t 28], (some 29), (some (23, false))⟩, 1, []),
          (⟨(.bin .gtr), [.t 26, .t 29], (some 30), (some (23, false))⟩, 0, []),
          (⟨.pick, [.t 23, .c (.pv (.b true)), .t 30], (some 31), none⟩, 0, []),
          (⟨.mv, [.t 31], (some 6), none⟩, 0, [])])))
      (.ops [⟨.mv, [.t 7], (some 10), none⟩,
        ⟨(.bin .add), [.t 10, .c (.pv (.i .i64 1))], (some 11), none⟩,
        ⟨.mv, [.t 11], (some 7), none⟩]))))))
  (.seq (.block 2 (.seq (.ops [⟨.mv, [.t 5], (some 33), none⟩,
      ⟨.mv, [.t 33], (some 34), none⟩,
      ⟨.mv, [.t 6], (some 35), (some (34, true))⟩,
      ⟨.pick, [.t 34, .t 35, .c (.pv (.b false))], (some 36), none⟩,
      ⟨.mv, [.t 36], (some 32), none⟩])
    (.ite (.t 32) (.seq (.ops [⟨.mv, [.c (.pv (.i .i64 2))], (some 4), none⟩])
      .ret)
      (.seq (.ops [⟨.mv, [.t 5], (some 38), none⟩,
        ⟨.mv, [.t 38], (some 37), none⟩])
      (.ite (.t 37) (.seq (.ops [⟨.mv, [.c (.pv (.i .i64 (-1)))], (some 4), none⟩])
        .ret)
        (.seq (.ops [⟨.mv, [.t 6], (some 40), none⟩,
          ⟨.mv, [.t 40], (some 39), none⟩])
        (.ite (.t 39) (.seq (.ops [⟨.mv, [.c (.pv (.i .i64 1))], (some 4), none⟩])
          .ret)
          .skip)))))))
  (.seq (.ops [⟨.mv, [.c (.pv (.i .i64 0))], (some 4), none⟩])
  .ret)))))
theorem fn26 : fnOf Try.prog 26 = some (41, [.t 4], ir26) := by kernel_rfl
def ir27 : C :=
  (.seq (.ops [⟨.box, [.t 1], (some 3), none⟩,
    ⟨(.new (.vec 8 (List.replicate 8 (.i .u32 0)))), [], (some 4), none⟩,
    ⟨.mv, [.c (.pv (.i .i64 0))], (some 5), none⟩])
  (.seq (.ops [⟨.mv, [.t 0], (some 13), none⟩,
    ⟨(.call 47), [.t 13], (some 14), none⟩,
    ⟨.mv, [.t 14], (some 12), none⟩,
    ⟨(.ext 0), [.t 12], (some 15), none⟩,
    ⟨(.ext 1), [.t 12], (some 16), none⟩,
    ⟨(.new (.vec 8 (List.replicate 8 (.i .i64 0)))), [], (some 6), none⟩,
    ⟨(.sto 8), [.t 6, .t 15], none, none⟩,
    ⟨.mv, [.t 16], (some 7), none⟩])
  (.seq (.seq (.ops [⟨.mv, [.t 7], (some 17), none⟩,
    ⟨(.bin .neq), [.t 17, .c (.pv (.i .i64 0))], (some 18), none⟩])
  (.ite (.t 18) (.seq (.ops [⟨(.bldV 8 1), [.c (.pv (.i .u32 0)), .c (.pv (.i .u32 0)), .c (.pv (.i .u32 0)), .c (.pv (.i .u32 0)), .c (.pv (.i .u32 0)), .c (.pv (.i .u32 0)), .c (.pv (.i .u32 0)), .c (.pv (.i .u32 0))], (some 19), none⟩,
      ⟨.mv, [.t 7], (some 20), none⟩,
      ⟨(.sto 8), [.t 4, .t 19], none, none⟩,
      ⟨.mv, [.t 20], (some 5), none⟩])
    .ret)
    .skip))
  (.seq (.ops [⟨(.new (.vec 8 (List.replicate 8 (.i .u32 0)))), [], (some 8), none⟩])
  (.seq (.seq (.ops [⟨(.ld 8 true), [.t 6], (some 21), none⟩,
    ⟨.mv, [.c (.pv (.i .i64 0))], (some 22), none⟩])
  (.block 0 (.loop (.seq (.ops [⟨(.bin .lss), [.t 22, .c (.pv (.i .i64 8))], (some 23), none⟩])
      (.seq (.ite (.t 23) .skip
        (.exit 0))
      (.seq (.block 1 (.seq (.ops [⟨.mv, [.t 22], (some 24), none⟩,
          ⟨(.ixA 8 1 false), [.t 21, .t 22], (some 25), none⟩,
          ⟨.mv, [.t 24], (some 9), none⟩,
          ⟨.mv, [.t 25], (some 10), none⟩])
        (.seq (.ops [⟨.mv, [.t 9], (some 26), none⟩,
          ⟨(.iaA 8 1), [.t 3, .t 26], (some 27), none⟩,
          ⟨(.ld 1 false), [.t 27], (some 28), none⟩,
          ⟨(.cvI .i64), [.t 28], (some 29), none⟩,
          ⟨.mv, [.t 10], (some 30), none⟩,
          ⟨(.bin .add), [.t 29, .t 30], (some 31), none⟩,
          ⟨.mv, [.t 31], (some 11), none⟩])
        (.seq (.seq (.ops [⟨.mv, [.t 11], (some 32), none⟩,
          ⟨(.bin .lss), [.t 32, .c (.pv (.i .i64 0))], (some 33), none⟩,
          ⟨.mv, [.t 33], (some 34), none⟩,
          ⟨.mv, [.t 11], (some 35), (some (34, false))⟩,
          ⟨(.bin .gtr), [.t 35, .c (.pv (.i .i64 4294967295))], (some 36), (some (34, false))⟩,
          ⟨.pick, [.t 34, .c (.pv (.b true)), .t 36], (some 37), none⟩])
        (.ite (.t 37) (.seq (.ops [⟨(.bldV 8 1), [.c (.pv (.i .u32 0)), .c (.pv (.i .u32 0)), .c (.pv (.i .u32 0)), .c (.pv (.i .u32 0)), .c (.pv (.i .u32 0)), .c (.pv (.i .u32 0)), .c (.pv (.i .u32 0)), .c (.pv (.i .u32 0))], (some 38), none⟩,
            ⟨(.sto 8), [.t 4, .t 38], none, none⟩,
            ⟨.mv, [.c (.pv (.i .i64 7))], (some 5), none⟩])
          .ret)
          .skip))
        (.ops [⟨.mv, [.t 9], (some 39), none⟩,
          ⟨.mv, [.t 11], (some 40), none⟩,
          ⟨(.cvI .u32), [.t 40], (some 41), none⟩,
          ⟨(.iaA 8 1), [.t 8, .t 39], (some 42), none⟩,
          ⟨(.sto 1), [.t 42, .t 41], none, none⟩])))))
      (.ops [⟨(.bin .add), [.t 22, .c (.pv (.i .i64 1))], (some 43), none⟩,
        ⟨.mv, [.t 43], (some 22), none⟩])))))))
  (.seq (.ops [⟨(.ld 8 true), [.t 8], (some 44), none⟩,
    ⟨(.sto 8), [.t 4, .t 44], none, none⟩,
    ⟨.mv, [.c (.pv (.i .i64 0))], (some 5), none⟩])
  .ret))))))
theorem fn27 : fnOf Try.prog 27 = some (45, [.c 4 8 true, .t 5], ir27) := by kernel_rfl
def ir35 : C :=
  (.seq (.ops [⟨.mv, [.c (.pv (.sl true 0 []))], (some 2), none⟩])
  (.seq (.ops [⟨(.bsl 1), [], (some 6), none⟩,
    ⟨.mv, [.t 6], (some 3), none⟩])
  (.seq (.seq (.ops [⟨.mv, [.c (.pv (.i .i64 56))], (some 4), none⟩])
  (.block 0 (.loop (.seq (.seq (.ops [⟨.mv, [.t 4], (some 7), none⟩,
        ⟨(.bin .geq), [.t 7, .c (.pv (.i .i64 0))], (some 8), none⟩])
      (.ite (.t 8) .skip
        (.exit 0)))
      (.seq (.block 1 (.seq (.ops [⟨.mv, [.t 0], (some 11), none⟩,
          ⟨.mv, [.t 4], (some 12), none⟩,
          ⟨(.bin .shr), [.t 11, .t 12], (some 13), none⟩,
          ⟨(.cvI .u8), [.t 13], (some 14), none⟩,
          ⟨.mv, [.t 14], (some 5), none⟩])
        (.seq (.ops [⟨.mv, [.t 5], (some 15), none⟩,
          ⟨(.bin .neq), [.t 15, .c (.pv (.i .u8 0))], (some 16), none⟩,
          ⟨.mv, [.t 16], (some 17), none⟩,
          ⟨.mv, [.t 3], (some 18), (some (17, false))⟩,
          ⟨.len, [.t 18], (some 19), (some (17, false))⟩,
          ⟨(.bin .gtr), [.t 19, .c (.pv (.i .i64 0))], (some 20), (some (17, false))⟩,
          ⟨.pick, [.t 17, .c (.pv (.b true)), .t 20], (some 21), none⟩])
        (.ite (.t 21) (.ops [⟨.mv, [.t 3], (some 22), none⟩,
            ⟨.mv, [.t 5], (some 23), none⟩,
            ⟨(.bsl 1), [.t 23], (some 24), none⟩,
            ⟨(.app 1 1), [.t 22, .t 24], (some 25), none⟩,
            ⟨.mv, [.t 25], (some 3), none⟩])
          .skip))))
      (.ops [⟨.mv, [.t 4], (some 9), none⟩,
        ⟨(.bin .sub), [.t 9, .c (.pv (.i .i64 8))], (some 10), none⟩,
        ⟨.mv, [.t 10], (some 4), none⟩]))))))
  (.seq (.ops [⟨.mv, [.t 3], (some 26), none⟩,
    ⟨.mv, [.t 26], (some 2), none⟩])
  .ret))))
theorem fn35 : fnOf Try.prog 35 = some (27, [.t 2], ir35) := by kernel_rfl
def ir36 : C :=
  (.seq (.ops [⟨.mv, [.c (.pv (.i .u64 0))], (some 2), none⟩,
    ⟨.mv, [.c (.pv (.i .i64 0))], (some 3), none⟩])
  (.seq (.block 0 (.seq (.ops [⟨.mv, [.t 0], (some 8), none⟩,
      ⟨.len, [.t 8], (some 9), none⟩,
      ⟨(.bin .gtr), [.t 9, .c (.pv (.i .i64 8))], (some 10), none⟩,
      ⟨.mv, [.t 10], (some 7), none⟩])
    (.ite (.t 7) (.seq (.ops [⟨.mv, [.c (.pv (.i .u64 0))], (some 2), none⟩,
        ⟨.mv, [.c (.pv (.i .i64 4))], (some 3), none⟩])
      .ret)
      (.seq (.ops [⟨.mv, [.t 0], (some 12), none⟩,
        ⟨.len, [.t 12], (some 13), none⟩,
        ⟨(.bin .gtr), [.t 13, .c (.pv (.i .i64 0))], (some 14), none⟩,
        ⟨.mv, [.t 14], (some 15), none⟩,
        ⟨.mv, [.t 0], (some 16), (some (15, true))⟩,
        ⟨(.iaS 1), [.t 16, .c (.pv (.i .i64 0))], (some 17), (some (15, true))⟩,
        ⟨(.ld 1 false), [.t 17], (some 18), (some (15, true))⟩,
        ⟨(.bin .eql), [.t 18, .c (.pv (.i .u8 0))], (some 19), (some (15, true))⟩,
        ⟨.pick, [.t 15, .t 19, .c (.pv (.b false))], (some 20), none⟩,
        ⟨.mv, [.t 20], (some 11), none⟩])
      (.ite (.t 11) (.seq (.ops [⟨.mv, [.c (.pv (.i .u64 0))], (some 2), none⟩,
          ⟨.mv, [.c (.pv (.i .i64 7))], (some 3), none⟩])
        .ret)
        .skip)))))
  (.seq (.ops [⟨.mv, [.c (.pv (.i .u64 0))], (some 4), none⟩])
  (.seq (.seq (.ops [⟨.mv, [.t 0], (some 21), none⟩,
    ⟨.len, [.t 21], (some 22), none⟩,
    ⟨.mv, [.c (.pv (.i .i64 0))], (some 23), none⟩])
  (.block 1 (.loop (.seq (.ops [⟨(.bin .lss), [.t 23, .t 22], (some 24), none⟩])
      (.seq (.ite (.t 24) .skip
        (.exit 1))
      (.seq (.block 2 (.seq (.ops [⟨(.iaS 1), [.t 21, .t 23], (some 25), none⟩,
          ⟨(.ld 1 false), [.t 25], (some 26), none⟩,
          ⟨.mv, [.t 26], (some 6), none⟩])
        (.ops [⟨.mv, [.t 4], (some 27), none⟩,
          ⟨(.bin .shl), [.t 27, .c (.pv (.i .u64 8))], (some 28), none⟩,
          ⟨.mv, [.t 6], (some 29), none⟩,
          ⟨(.cvI .u64), [.t 29], (some 30), none⟩,
          ⟨(.bin .or), [.t 28, .t 30], (some 31), none⟩,
          ⟨.mv, [.t 31], (some 4), none⟩])))
      (.ops [⟨(.bin .add), [.t 23, .c (.pv (.i .i64 1))], (some 32), none⟩,
        ⟨.mv, [.t 32], (some 23), none⟩])))))))
  (.seq (.ops [⟨.mv, [.t 4], (some 33), none⟩,
    ⟨.mv, [.t 33], (some 2), none⟩,
    ⟨.mv, [.c (.pv (.i .i64 0))], (some 3), none⟩])
  .ret)))))
theorem fn36 : fnOf Try.prog 36 = some (34, [.t 2, .t 3], ir36) := by kernel_rfl
def ir37 : C :=
  (.seq (.ops [⟨.mv, [.c (.pv (.i .u64 0))], (some 2), none⟩,
    ⟨.mv, [.c (.pv (.i .i64 0))], (some 3), none⟩])
  (.seq (.seq (.ops [⟨.mv, [.t 0], (some 6), none⟩,
    ⟨.lenS, [.t 6], (some 7), none⟩,
    ⟨(.bin .gtr), [.t 7, .c (.pv (.i .i64 8))], (some 8), none⟩])
  (.ite (.t 8) (.seq (.ops [⟨.mv, [.c (.pv (.i .u64 0))], (some 2), none⟩,
      ⟨.mv, [.c (.pv (.i .i64 4))], (some 3), none⟩])
    .ret)
    .skip))
  (.seq (.ops [⟨.mv, [.c (.pv (.i .u64 0))], (some 4), none⟩])
  (.seq (.seq (.ops [⟨.mv, [.c (.pv (.i .i64 0))], (some 5), none⟩])
  (.block 0 (.loop (.seq (.seq (.ops [⟨.mv, [.t 5], (some 9), none⟩,
        ⟨.mv, [.t 0], (some 10), none⟩,
        ⟨.lenS, [.t 10], (some 11), none⟩,
        ⟨(.bin .lss), [.t 9, .t 11], (some 12), none⟩])
      (.ite (.t 12) .skip
        (.exit 0)))
      (.seq (.block 1 (.ops [⟨.mv, [.t 4], (some 15), none⟩,
          ⟨(.bin .mul), [.t 15, .c (.pv (.i .u64 256))], (some 16), none⟩,
          ⟨.mv, [.t 0], (some 17), none⟩,
          ⟨.mv, [.t 5], (some 18), none⟩,
          ⟨.ixS, [.t 17, .t 18], (some 19), none⟩,
          ⟨(.cvI .u64), [.t 19], (some 20), none⟩,
          ⟨(.bin .add), [.t 16, .t 20], (some 21), none⟩,
          ⟨.mv, [.t 21], (some 4), none⟩]))
      (.ops [⟨.mv, [.t 5], (some 13), none⟩,
        ⟨(.bin .add), [.t 13, .c (.pv (.i .i64 1))], (some 14), none⟩,
        ⟨.mv, [.t 14], (some 5), none⟩]))))))
  (.seq (.seq (.ops [⟨.mv, [.t 4], (some 22), none⟩,
    ⟨(.call 38), [.t 22], (some 23), none⟩,
    ⟨.mv, [.t 0], (some 24), none⟩,
    ⟨(.bin .neq), [.t 23, .t 24], (some 25), none⟩])
  (.ite (.t 25) (.seq (.ops [⟨.mv, [.c (.pv (.i .u64 0))], (some 2), none⟩,
      ⟨.mv, [.c (.pv (.i .i64 7))], (some 3), none⟩])
    .ret)
    .skip))
  (.seq (.ops [⟨.mv, [.t 4], (some 26), none⟩,
    ⟨.mv, [.t 26], (some 2), none⟩,
    ⟨.mv, [.c (.pv (.i .i64 0))], (some 3), none⟩])
  .ret))))))
theorem fn37 : fnOf Try.prog 37 = some (27, [.t 2, .t 3], ir37) := by kernel_rfl
def ir38 : C :=
  (.seq (.ops [⟨.mv, [.c (.pv (.s []))], (some 2), none⟩])
  (.seq (.seq (.ops [⟨.mv, [.t 0], (some 3), none⟩,
    ⟨(.bin .eql), [.t 3, .c (.pv (.i .u64 0))], (some 4), none⟩])
  (.ite (.t 4) (.seq (.ops [⟨.mv, [.c (.pv (.s []))], (some 2), none⟩])
    .ret)
    .skip))
  (.seq (.any [7, 11] [(⟨.mv, [.t 0], (some 5), none⟩, 0, [7, 11]),
    (⟨(.bin .quo), [.t 5, .c (.pv (.i .u64 256))], (some 6), none⟩, 0, [7, 11]),
    (⟨(.call 38), [.t 6], (some 7), none⟩, 1, [7, 11]),
    (⟨.mv, [.t 0], (some 8), none⟩, 0, [7, 11]),
    (⟨(.bin .rem), [.t 8, .c (.pv (.i .u64 256))], (some 9), none⟩, 0, [7, 11]),
    (⟨(.cvI .u8), [.t 9], (some 10), none⟩, 0, [7, 11]),
    (⟨(.bsl 1), [.t 10], (some 11), none⟩, 1, [7, 11]),
    (⟨.b2s, [.t 11], (some 12), none⟩, 1, [7]),
    (⟨(.bin .add), [.t 7, .t 12], (some 13), none⟩, 0, [11]),
    (⟨.mv, [.t 13], (some 2), none⟩, 0, [])])
  .ret)))
theorem fn38 : fnOf Try.prog 38 = some (14, [.t 2], ir38) := by kernel_rfl
def ir39 : C :=
  (.seq (.ops [⟨.mv, [.c (.pv (.b false))], (some 0), none⟩])
  (.seq (.ops [⟨(.bldV 8 1), [.c (.pv (.i .u32 5)), .c (.pv (.i .u32 3)), .c (.pv (.i .u32 0)), .c (.pv (.i .u32 0)), .c (.pv (.i .u32 0)), .c (.pv (.i .u32 0)), .c (.pv (.i .u32 0)), .c (.pv (.i .u32 0))], (some 4), none⟩,
    ⟨(.bldV 8 1), [.c (.pv (.i .u32 2)), .c (.pv (.i .u32 4)), .c (.pv (.i .u32 0)), .c (.pv (.i .u32 0)), .c (.pv (.i .u32 0)), .c (.pv (.i .u32 0)), .c (.pv (.i .u32 0)), .c (.pv (.i .u32 0))], (some 5), none⟩,
    ⟨(.call 23), [.t 4, .t 5], (some 6), none⟩,
    ⟨.mv, [.t 6], (some 1), none⟩])
  (.seq (.ops [⟨.mv, [.t 1], (some 8), none⟩,
    ⟨(.bldV 8 1), [.c (.pv (.i .u32 2)), .c (.pv (.i .u32 4)), .c (.pv (.i .u32 0)), .c (.pv (.i .u32 0)), .c (.pv (.i .u32 0)), .c (.pv (.i .u32 0)), .c (.pv (.i .u32 0)), .c (.pv (.i .u32 0))], (some 9), none⟩,
    ⟨(.call 27), [.t 8, .t 9], (some 10), none⟩,
    ⟨.mv, [.t 10], (some 7), none⟩,
    ⟨(.ext 0), [.t 7], (some 11), none⟩,
    ⟨(.ext 1), [.t 7], (some 12), none⟩,
    ⟨(.new (.vec 8 (List.replicate 8 (.i .u32 0)))), [], (some 2), none⟩,
    ⟨(.sto 8), [.t 2, .t 11], none, none⟩,
    ⟨.mv, [.t 12], (some 3), none⟩])
  (.seq (.ops [⟨.mv, [.t 1], (some 13), none⟩,
    ⟨.b2s, [.t 13], (some 14), none⟩,
    ⟨(.bin .eql), [.t 14, .c (.pv (.s [1, 2, 1, 3, 1, 1]))], (some 15), none⟩,
    ⟨.mv, [.t 15], (some 16), none⟩,
    ⟨(.ld 8 true), [.t 2], (some 17), (some (16, true))⟩,
    ⟨(.bldV 8 1), [.c (.pv (.i .u32 5)), .c (.pv (.i .u32 3)), .c (.pv (.i .u32 0)), .c (.pv (.i .u32 0)), .c (.pv (.i .u32 0)), .c (.pv (.i .u32 0)), .c (.pv (.i .u32 0)), .c (.pv (.i .u32 0))], (some 18), (some (16, true))⟩,
    ⟨(.eqv false [.int .u32, .int .u32, .int .u32, .int .u32, .int .u32, .int .u32, .int .u32, .int .u32]), [.t 17, .t 18], (some 19), (some (16, true))⟩,
    ⟨.pick, [.t 16, .t 19, .c (.pv (.b false))], (some 20), none⟩,
    ⟨.mv, [.t 20], (some 21), none⟩,
    ⟨.mv, [.t 3], (some 22), (some (21, true))⟩,
    ⟨(.bin .eql), [.t 22, .c (.pv (.i .i64 0))], (some 23), (some (21, true))⟩,
    ⟨.pick, [.t 21, .t 23, .c (.pv (.b false))], (some 24), none⟩,
    ⟨.mv, [.t 24], (some 0), none⟩])
  .ret))))
theorem fn39 : fnOf Try.prog 39 = some (25, [.t 0], ir39) := by kernel_rfl
def ir40 : C :=
  (.seq (.ops [⟨.box, [.t 0], (some 2), none⟩,
    ⟨.box, [.t 1], (some 3), none⟩,
    ⟨.mv, [.c (.pv (.s []))], (some 4), none⟩])
  (.seq (.ops [⟨.mv, [.c (.pv (.i .u8 0))], (some 5), none⟩,
    ⟨.mv, [.c (.pv (.i .u8 0))], (some 6), none⟩,
    ⟨.mv, [.c (.pv (.s []))], (some 7), none⟩])
  (.seq (.seq (.ops [⟨.mv, [.c (.pv (.i .i64 0))], (some 8), none⟩])
  (.block 0 (.loop (.seq (.seq (.ops [⟨.mv, [.t 8], (some 11), none⟩,
        ⟨(.bin .lss), [.t 11, .c (.pv (.i .i64 8))], (some 12), none⟩])
      (.ite (.t 12) .skip
        (.exit 0)))
      (.seq (.block 1 (.seq (.any [] [(⟨.mv, [.t 8], (some 15), none⟩, 0, []),
          (⟨(.iaA 8 1), [.t 2, .t 15], (some 16), none⟩, 0, []),
          (⟨(.ld 1 false), [.t 16], (some 17), none⟩, 1, []),
          (⟨(.cvI .i64), [.t 17], (some 18), none⟩, 0, []),
          (⟨.mv, [.t 8], (some 19), none⟩, 0, []),
          (⟨(.iaA 8 1), [.t 3, .t 19], (some 20), none⟩, 0, []),
          (⟨(.ld 1 false), [.t 20], (some 21), none⟩, 1, []),
          (⟨(.cvI .i64), [.t 21], (some 22), none⟩, 0, []),
          (⟨(.bin .sub), [.t 18, .t 22], (some 23), none⟩, 0, []),
          (⟨.mv, [.t 23], (some 9), none⟩, 0, [])])
        (.seq (.seq (.ops [⟨.mv, [.t 9], (some 24), none⟩,
          ⟨(.bin .gtr), [.t 24, .c (.pv (.i .i64 0))], (some 25), none⟩])
        (.ite (.t 25) (.ops [⟨.mv, [.t 5], (some 26), none⟩,
            ⟨.mv, [.t 8], (some 27), none⟩,
            ⟨(.call 51), [.t 27], (some 28), none⟩,
            ⟨(.bin .add), [.t 26, .t 28], (some 29), none⟩,
            ⟨.mv, [.t 29], (some 5), none⟩])
          .skip))
        (.seq (.seq (.ops [⟨.mv, [.t 9], (some 30), none⟩,
          ⟨(.bin .lss), [.t 30, .c (.pv (.i .i64 0))], (some 31), none⟩])
        (.ite (.t 31) (.seq (.ops [⟨.mv, [.t 6], (some 32), none⟩,
            ⟨.mv, [.t 8], (some 33), none⟩,
            ⟨(.call 51), [.t 33], (some 34), none⟩,
            ⟨(.bin .add), [.t 32, .t 34], (some 35), none⟩,
            ⟨.mv, [.t 35], (some 6), none⟩])
          (.ops [⟨.mv, [.t 9], (some 36), none⟩,
            ⟨(.un .neg), [.t 36], (some 37), none⟩,
            ⟨.mv, [.t 37], (some 9), none⟩]))
          .skip))
        (.seq (.ops [⟨.mv, [.t 9], (some 38), none⟩,
          ⟨(.bin .neq), [.t 38, .c (.pv (.i .i64 0))], (some 39), none⟩])
        (.ite (.t 39) (.seq (.ops [⟨.mv, [.t 9], (some 40), none⟩,
            ⟨(.cvI .u64), [.t 40], (some 41), none⟩,
            ⟨(.call 38), [.t 41], (some 42), none⟩,
            ⟨.mv, [.t 42], (some 10), none⟩])
          (.ops [⟨.mv, [.t 7], (some 43), none⟩,
            ⟨.mv, [.t 10], (some 44), none⟩,
            ⟨.lenS, [.t 44], (some 45), none⟩,
            ⟨(.cvI .u8), [.t 45], (some 46), none⟩,
            ⟨(.bsl 1), [.t 46], (some 47), none⟩,
            ⟨.b2s, [.t 47], (some 48), none⟩,
            ⟨.mv, [.t 10], (some 49), none⟩,
            ⟨(.bin .add), [.t 48, .t 49], (some 50), none⟩,
            ⟨(.bin .add), [.t 43, .t 50], (some 51), none⟩,
            ⟨.mv, [.t 51], (some 7), none⟩]))
          .skip))))))
      (.ops [⟨.mv, [.t 8], (some 13), none⟩,
        ⟨(.bin .add), [.t 13, .c (.pv (.i .i64 1))], (some 14), none⟩,
        ⟨.mv, [.t 14], (some 8), none⟩]))))))
  (.seq (.ops [⟨.mv, [.t 5], (some 52), none⟩,
    ⟨.mv, [.t 6], (some 53), none⟩,
    ⟨(.bsl 1), [.t 52, .t 53], (some 54), none⟩,
    ⟨.b2s, [.t 54], (some 55), none⟩,
    ⟨.mv, [.t 7], (some 56), none⟩,
    ⟨(.bin .add), [.t 55, .t 56], (some 57), none⟩,
    ⟨.mv, [.t 57], (some 4), none⟩])
  .ret))))
theorem fn40 : fnOf Try.prog 40 = some (58, [.t 4], ir40) := by kernel_rfl
def ir41 : C :=
  (.seq (.ops [⟨.box, [.t 1], (some 3), none⟩,
    ⟨(.new (.vec 8 (List.replicate 8 (.i .u32 0)))), [], (some 4), none⟩,
    ⟨.mv, [.c (.pv (.i .i64 0))], (some 5), none⟩])
  (.seq (.ops [⟨.mv, [.t 0], (some 12), none⟩,
    ⟨(.call 52), [.t 12], (some 13), none⟩,
    ⟨.mv, [.t 13], (some 11), none⟩,
    ⟨(.ext 0), [.t 11], (some 14), none⟩,
    ⟨(.ext 1), [.t 11], (some 15), none⟩,
    ⟨(.new (.vec 8 (List.replicate 8 (.i .i64 0)))), [], (some 6), none⟩,
    ⟨(.sto 8), [.t 6, .t 14], none, none⟩,
    ⟨.mv, [.t 15], (some 7), none⟩])
  (.seq (.seq (.ops [⟨.mv, [.t 7], (some 16), none⟩,
    ⟨(.bin .neq), [.t 16, .c (.pv (.i .i64 0))], (some 17), none⟩])
  (.ite (.t 17) (.seq (.ops [⟨(.bldV 8 1), [.c (.pv (.i .u32 0)), .c (.pv (.i .u32 0)), .c (.pv (.i .u32 0)), .c (.pv (.i .u32 0)), .c (.pv (.i .u32 0)), .c (.pv (.i .u32 0)), .c (.pv (.i .u32 0)), .c (.pv (.i .u32 0))], (some 18), none⟩,
      ⟨.mv, [.t 7], (some 19), none⟩,
      ⟨(.sto 8), [.t 4, .t 18], none, none⟩,
      ⟨.mv, [.t 19], (some 5), none⟩])
    .ret)
    .skip))
  (.seq (.ops [⟨(.bldV 8 1), [.c (.pv (.i .u32 0)), .c (.pv (.i .u32 0)), .c (.pv (.i .u32 0)), .c (.pv (.i .u32 0)), .c (.pv (.i .u32 0)), .c (.pv (.i .u32 0)), .c (.pv (.i .u32 0)), .c (.pv (.i .u32 0))], (some 20), none⟩,
    ⟨(.new (.vec 8 (List.replicate 8 (.i .u32 0)))), [], (some 8), none⟩,
    ⟨(.sto 8), [.t 8, .t 20], none, none⟩])
  (.seq (.seq (.ops [⟨.mv, [.c (.pv (.i .i64 0))], (some 9), none⟩])
  (.block 0 (.loop (.seq (.seq (.ops [⟨.mv, [.t 9], (some 21), none⟩,
        ⟨(.bin .lss), [.t 21, .c (.pv (.i .i64 8))], (some 22), none⟩])
      (.ite (.t 22) .skip
        (.exit 0)))
      (.seq (.block 1 (.seq (.any [] [(⟨.mv, [.t 9], (some 25), none⟩, 0, []),
          (⟨(.iaA 8 1), [.t 3, .t 25], (some 26), none⟩, 0, []),
          (⟨(.ld 1 false), [.t 26], (some 27), none⟩, 1, []),
          (⟨(.cvI .i64), [.t 27], (some 28), none⟩, 0, []),
          (⟨.mv, [.t 9], (some 29), none⟩, 0, []),
          (⟨(.iaA 8 1), [.t 6, .t 29], (some 30), none⟩, 0, []),
          (⟨(.ld 1 false), [.t 30], (some 31), none⟩, 1, []),
          (⟨(.bin .add), [.t 28, .t 31], (some 32), none⟩, 0, []),
          (⟨.mv, [.t 32], (some 10), none⟩, 0, [])])
        (.seq (.seq (.ops [⟨.mv, [.t 10], (some 33), none⟩,
          ⟨(.bin .lss), [.t 33, .c (.pv (.i .i64 0))], (some 34), none⟩,
          ⟨.mv, [.t 34], (some 35), none⟩,
          ⟨.mv, [.t 10], (some 36), (some (35, false))⟩,
          ⟨(.bin .gtr), [.t 36, .c (.pv (.i .i64 4294967295))], (some 37), (some (35, false))⟩,
          ⟨.pick, [.t 35, .c (.pv (.b true)), .t 37], (some 38), none⟩])
        (.ite (.t 38) (.seq (.ops [⟨(.bldV 8 1), [.c (.pv (.i .u32 0)), .c (.pv (.i .u32 0)), .c (.pv (.i .u32 0)), .c (.pv (.i .u32 0)), .c (.pv (.i .u32 0)), .c (.pv (.i .u32 0)), .c (.pv (.i .u32 0)), .c (.pv (.i .u32 0))], (some 39), none⟩,
            ⟨(.sto 8), [.t 4, .t 39], none, none⟩,
            ⟨.mv, [.c (.pv (.i .i64 7))], (some 5), none⟩])
          .ret)
          .skip))
        (.ops [⟨.mv, [.t 9], (some 40), none⟩,
          ⟨.mv, [.t 10], (some 41), none⟩,
          ⟨(.cvI .u32), [.t 41], (some 42), none⟩,
          ⟨(.iaA 8 1), [.t 8, .t 40], (some 43), none⟩,
          ⟨(.sto 1), [.t 43, .t 42], none, none⟩]))))
      (.ops [⟨.mv, [.t 9], (some 23), none⟩,
        ⟨(.bin .add), [.t 23, .c (.pv (.i .i64 1))], (some 24), none⟩,
        ⟨.mv, [.t 24], (some 9), none⟩]))))))
  (.seq (.ops [⟨(.ld 8 true), [.t 8], (some 44), none⟩,
    ⟨(.sto 8), [.t 4, .t 44], none, none⟩,
    ⟨.mv, [.c (.pv (.i .i64 0))], (some 5), none⟩])
  .ret))))))
theorem fn41 : fnOf Try.prog 41 = some (45, [.c 4 8 true, .t 5], ir41) := by kernel_rfl
def ir46 : C :=
  (.seq (.ops [⟨.mv, [.c (.pv (.sl true 0 []))], (some 2), none⟩])
  (.seq (.ops [⟨.mv, [.t 0], (some 4), none⟩,
    ⟨(.cvI .u64), [.t 4], (some 5), none⟩,
    ⟨(.call 35), [.t 5], (some 6), none⟩,
    ⟨.mv, [.t 6], (some 3), none⟩])
  (.seq (.ops [⟨.mv, [.t 3], (some 7), none⟩,
    ⟨.len, [.t 7], (some 8), none⟩,
    ⟨(.cvI .u8), [.t 8], (some 9), none⟩,
    ⟨(.bsl 1), [.t 9], (some 10), none⟩,
    ⟨.mv, [.t 3], (some 11), none⟩,
    ⟨(.app 1 1), [.t 10, .t 11], (some 12), none⟩,
    ⟨.mv, [.t 12], (some 2), none⟩])
  .ret)))
theorem fn46 : fnOf Try.prog 46 = some (13, [.t 2], ir46) := by kernel_rfl
def ir47 : C :=
  (.seq (.ops [⟨(.new (.vec 8 (List.replicate 8 (.i .i64 0)))), [], (some 2), none⟩,
    ⟨.mv, [.c (.pv (.i .i64 0))], (some 3), none⟩])
  (.seq (.ops [⟨(.new (.vec 8 (List.replicate 8 (.i .i64 0)))), [], (some 4), none⟩])
  (.seq (.seq (.ops [⟨.mv, [.t 0], (some 12), none⟩,
    ⟨.len, [.t 12], (some 13), none⟩,
    ⟨(.bin .lss), [.t 13, .c (.pv (.i .i64 2))], (some 14), none⟩])
  (.ite (.t 14) (.seq (.ops [⟨(.bldV 8 1), [.c (.pv (.i .i64 0)), .c (.pv (.i .i64 0)), .c (.pv (.i .i64 0)), .c (.pv (.i .i64 0)), .c (.pv (.i .i64 0)), .c (.pv (.i .i64 0)), .c (.pv (.i .i64 0)), .c (.pv (.i .i64 0))], (some 15), none⟩,
      ⟨(.sto 8), [.t 2, .t 15], none, none⟩,
      ⟨.mv, [.c (.pv (.i .i64 8))], (some 3), none⟩])
    .ret)
    .skip))
  (.seq (.anyF [] [(⟨.mv, [.t 0], (some 16), none⟩, 0, []),
    (⟨(.iaS 1), [.t 16, .c (.pv (.i .i64 0))], (some 17), none⟩, 1, []),
    (⟨(.ld 1 false), [.t 17], (some 18), none⟩, 1, []),
    (⟨.mv, [.t 0], (some 19), none⟩, 0, []),
    (⟨(.iaS 1), [.t 19, .c (.pv (.i .i64 1))], (some 20), none⟩, 1, []),
    (⟨(.ld 1 false), [.t 20], (some 21), none⟩, 1, []),
    (⟨.mv, [.t 0], (some 22), none⟩, 0, []),
    (⟨(.slc 1 true false false), [.t 22, .c (.pv (.i .i64 2))], (some 23), none⟩, 1, []),
    (⟨.mv, [.t 18], (some 5), none⟩, 0, []),
    (⟨.mv, [.t 21], (some 6), none⟩, 0, []),
    (⟨.mv, [.t 23], (some 7), none⟩, 0, [])])
  (.seq (.seq (.ops [⟨.mv, [.t 5], (some 24), none⟩,
    ⟨.mv, [.t 6], (some 25), none⟩,
    ⟨(.bin .and), [.t 24, .t 25], (some 26), none⟩,
    ⟨(.bin .neq), [.t 26, .c (.pv (.i .u8 0))], (some 27), none⟩])
  (.ite (.t 27) (.seq (.ops [⟨(.bldV 8 1), [.c (.pv (.i .i64 0)), .c (.pv (.i .i64 0)), .c (.pv (.i .i64 0)), .c (.pv (.i .i64 0)), .c (.pv (.i .i64 0)), .c (.pv (.i .i64 0)), .c (.pv (.i .i64 0)), .c (.pv (.i .i64 0))], (some 28), none⟩,
      ⟨(.sto 8), [.t 2, .t 28], none, none⟩,
      ⟨.mv, [.c (.pv (.i .i64 7))], (some 3), none⟩])
    .ret)
    .skip))
  (.seq .skip
  (.seq (.seq (.ops [⟨.mv, [.c (.pv (.i .i64 0))], (some 29), none⟩])
  (.block 0 (.loop (.seq (.ops [⟨(.bin .lss), [.t 29, .c (.pv (.i .i64 8))], (some 30), none⟩])
      (.seq (.ite (.t 30) .skip
        (.exit 0))
      (.seq (.block 1 (.seq (.ops [⟨.mv, [.t 29], (some 31), none⟩,
          ⟨.mv, [.t 31], (some 8), none⟩])
        (.seq (.ops [⟨.mv, [.c (.pv (.i .i64 1))], (some 9), none⟩])
        (.seq (.block 2 (.seq (.ops [⟨.mv, [.t 6], (some 33), none⟩,
            ⟨.mv, [.t 8], (some 34), none⟩,
            ⟨(.bin .shr), [.t 33, .t 34], (some 35), none⟩,
            ⟨(.bin .and), [.t 35, .c (.pv (.i .u8 1))], (some 36), none⟩,
            ⟨(.bin .eql), [.t 36, .c (.pv (.i .u8 1))], (some 37), none⟩,
            ⟨.mv, [.t 37], (some 32), none⟩])
          (.ite (.t 32) (.ops [⟨.mv, [.c (.pv (.i .i64 (-1)))], (some 9), none⟩])
            (.seq (.ops [⟨.mv, [.t 5], (some 39), none⟩,
              ⟨.mv, [.t 8], (some 40), none⟩,
              ⟨(.bin .shr), [.t 39, .t 40], (some 41), none⟩,
              ⟨(.bin .and), [.t 41, .c (.pv (.i .u8 1))], (some 42), none⟩,
              ⟨(.bin .eql), [.t 42, .c (.pv (.i .u8 0))], (some 43), none⟩,
              ⟨.mv, [.t 43], (some 38), none⟩])
            (.ite (.t 38) (.exit 1)
              .skip)))))
        (.seq (.seq (.ops [⟨.mv, [.t 7], (some 44), none⟩,
          ⟨.len, [.t 44], (some 45), none⟩,
          ⟨(.bin .eql), [.t 45, .c (.pv (.i .i64 0))], (some 46), none⟩,
          ⟨.mv, [.t 46], (some 47), none⟩,
          ⟨.mv, [.t 7], (some 48), (some (47, false))⟩,
          ⟨(.iaS 1), [.t 48, .c (.pv (.i .i64 0))], (some 49), (some (47, false))⟩,
          ⟨(.ld 1 false), [.t 49], (some 50), (some (47, false))⟩,
          ⟨(.cvI .i64), [.t 50], (some 51), (some (47, false))⟩,
          ⟨.mv, [.t 7], (some 52), (some (47, false))⟩,
          ⟨.len, [.t 52], (some 53), (some (47, false))⟩,
          ⟨(.bin .sub), [.t 53, .c (.pv (.i .i64 1))], (some 54), (some (47, false))⟩,
          ⟨(.bin .gtr), [.t 51, .t 54], (some 55), (some (47, false))⟩,
          ⟨.pick, [.t 47, .c (.pv (.b true)), .t 55], (some 56), none⟩])
        (.ite (.t 56) (.seq (.ops [⟨(.bldV 8 1), [.c (.pv (.i .i64 0)), .c (.pv (.i .i64 0)), .c (.pv (.i .i64 0)), .c (.pv (.i .i64 0)), .c (.pv (.i .i64 0)), .c (.pv (.i .i64 0)), .c (.pv (.i .i64 0)), .c (.pv (.i .i64 0))], (some 57), none⟩,
            ⟨(.sto 8), [.t 2, .t 57], none, none⟩,
            ⟨.mv, [.c (.pv (.i .i64 8))], (some 3), none⟩])
          .ret)
          .skip))
        (.seq (.ops [⟨.mv, [.t 7], (some 59), none⟩,
          ⟨.mv, [.t 7], (some 60), none⟩,
          ⟨(.iaS 1), [.t 60, .c (.pv (.i .i64 0))], (some 61), none⟩,
          ⟨(.ld 1 false), [.t 61], (some 62), none⟩,
          ⟨(.cvI .i64), [.t 62], (some 63), none⟩,
          ⟨(.bin .add), [.c (.pv (.i .i64 1)), .t 63], (some 64), none⟩,
          ⟨(.slc 1 true true false), [.t 59, .c (.pv (.i .i64 1)), .t 64], (some 65), none⟩,
          ⟨(.call 36), [.t 65], (some 66), none⟩,
          ⟨.mv, [.t 66], (some 58), none⟩,
          ⟨(.ext 0), [.t 58], (some 67), none⟩,
          ⟨(.ext 1), [.t 58], (some 68), none⟩,
          ⟨.mv, [.t 67], (some 10), none⟩,
          ⟨.mv, [.t 68], (some 11), none⟩])
        (.seq (.seq (.ops [⟨.mv, [.t 11], (some 69), none⟩,
          ⟨(.bin .neq), [.t 69, .c (.pv (.i .i64 0))], (some 70), none⟩,
          ⟨.mv, [.t 70], (some 71), none⟩,
          ⟨.mv, [.t 10], (some 72), (some (71, false))⟩,
          ⟨(.bin .eql), [.t 72, .c (.pv (.i .u64 0))], (some 73), (some (71, false))⟩,
          ⟨.pick, [.t 71, .c (.pv (.b true)), .t 73], (some 74), none⟩,
          ⟨.mv, [.t 74], (some 75), none⟩,
          ⟨.mv, [.t 10], (some 76), (some (75, false))⟩,
          ⟨(.bin .gtr), [.t 76, .c (.pv (.i .u64 4294967295))], (some 77), (some (75, false))⟩,
          ⟨.pick, [.t 75, .c (.pv (.b true)), .t 77], (some 78), none⟩])
        (.ite (.t 78) (.seq (.ops [⟨(.bldV 8 1), [.c (.pv (.i .i64 0)), .c (.pv (.i .i64 0)), .c (.pv (.i .i64 0)), .c (.pv (.i .i64 0)), .c (.pv (.i .i64 0)), .c (.pv (.i .i64 0)), .c (.pv (.i .i64 0)), .c (.pv (.i .i64 0))], (some 79), none⟩,
            ⟨(.sto 8), [.t 2, .t 79], none, none⟩,
            ⟨.mv, [.c (.pv (.i .i64 7))], (some 3), none⟩])
          .ret)
          .skip))
        (.seq (.ops [⟨.mv, [.t 8], (some 80), none⟩,
          ⟨.mv, [.t 9], (some 81), none⟩,
          ⟨.mv, [.t 10], (some 82), none⟩,
          ⟨(.cvI .i64), [.t 82], (some 83), none⟩,
          ⟨(.bin .mul), [.t 81, .t 83], (some 84), none⟩,
          ⟨(.iaA 8 1), [.t 4, .t 80], (some 85), none⟩,
          ⟨(.sto 1), [.t 85, .t 84], none, none⟩])
        (.ops [⟨.mv, [.t 7], (some 86), none⟩,
          ⟨.mv, [.t 7], (some 87), none⟩,
          ⟨(.iaS 1), [.t 87, .c (.pv (.i .i64 0))], (some 88), none⟩,
          ⟨(.ld 1 false), [.t 88], (some 89), none⟩,
          ⟨(.cvI .i64), [.t 89], (some 90), none⟩,
          ⟨(.bin .add), [.c (.pv (.i .i64 1)), .t 90], (some 91), none⟩,
          ⟨(.slc 1 true false false), [.t 86, .t 91], (some 92), none⟩,
          ⟨.mv, [.t 92], (some 7), none⟩])))))))))
      (.ops [⟨(.bin .add), [.t 29, .c (.pv (.i .i64 1))], (some 93), none⟩,
        ⟨.mv, [.t 93], (some 29), none⟩])))))))
  (.seq (.seq (.ops [⟨.mv, [.t 7], (some 94), none⟩,
    ⟨.len, [.t 94], (some 95), none⟩,
    ⟨(.bin .gtr), [.t 95, .c (.pv (.i .i64 0))], (some 96), none⟩])
  (.ite (.t 96) (.seq (.ops [⟨(.bldV 8 1), [.c (.pv (.i .i64 0)), .c (.pv (.i .i64 0)), .c (.pv (.i .i64 0)), .c (.pv (.i .i64 0)), .c (.pv (.i .i64 0)), .c (.pv (.i .i64 0)), .c (.pv (.i .i64 0)), .c (.pv (.i .i64 0))], (some 97), none⟩,
      ⟨(.sto 8), [.t 2, .t 97], none, none⟩,
      ⟨.mv, [.c (.pv (.i .i64 4))], (some 3), none⟩])
    .ret)
    .skip))
  (.seq (.ops [⟨(.ld 8 true), [.t 4], (some 98), none⟩,
    ⟨(.sto 8), [.t 2, .t 98], none, none⟩,
    ⟨.mv, [.c (.pv (.i .i64 0))], (some 3), none⟩])
  .ret)))))))))
theorem fn47 : fnOf Try.prog 47 = some (99, [.c 2 8 true, .t 3], ir47) := by kernel_rfl
def ir48 : C :=
  (.seq (.ops [⟨.box, [.t 0], (some 2), none⟩,
    ⟨.box, [.t 1], (some 3), none⟩,
    ⟨(.new (.vec 8 (List.replicate 8 (.i .u32 0)))), [], (some 4), none⟩])
  (.seq (.seq (.ops [⟨(.ld 8 true), [.t 3], (some 7), none⟩,
    ⟨.mv, [.c (.pv (.i .i64 0))], (some 8), none⟩])
  (.block 0 (.loop (.seq (.ops [⟨(.bin .lss), [.t 8, .c (.pv (.i .i64 8))], (some 9), none⟩])
      (.seq (.ite (.t 9) .skip
        (.exit 0))
      (.seq (.block 1 (.seq (.ops [⟨.mv, [.t 8], (some 10), none⟩,
          ⟨(.ixA 8 1 false), [.t 7, .t 8], (some 11), none⟩,
          ⟨.mv, [.t 10], (some 5), none⟩,
          ⟨.mv, [.t 11], (some 6), none⟩])
        (.ops [⟨.mv, [.t 5], (some 12), none⟩,
          ⟨.mv, [.t 5], (some 13), none⟩,
          ⟨(.iaA 8 1), [.t 2, .t 13], (some 14), none⟩,
          ⟨(.ld 1 false), [.t 14], (some 15), none⟩,
          ⟨.mv, [.t 6], (some 16), none⟩,
          ⟨.mn, [.t 15, .t 16], (some 17), none⟩,
          ⟨(.iaA 8 1), [.t 2, .t 12], (some 18), none⟩,
          ⟨(.sto 1), [.t 18, .t 17], none, none⟩])))
      (.ops [⟨(.bin .add), [.t 8, .c (.pv (.i .i64 1))], (some 19), none⟩,
        ⟨.mv, [.t 19], (some 8), none⟩])))))))
  (.seq (.ops [⟨(.ld 8 true), [.t 2], (some 20), none⟩,
    ⟨(.sto 8), [.t 4, .t 20], none, none⟩])
  .ret)))
theorem fn48 : fnOf Try.prog 48 = some (21, [.c 4 8 true], ir48) := by kernel_rfl
def ir49 : C :=
  (.seq (.ops [⟨.box, [.t 0], (some 2), none⟩,
    ⟨.box, [.t 1], (some 3), none⟩,
    ⟨(.new (.vec 8 (List.replicate 8 (.i .u32 0)))), [], (some 4), none⟩])
  (.seq (.seq (.ops [⟨(.ld 8 true), [.t 3], (some 7), none⟩,
    ⟨.mv, [.c (.pv (.i .i64 0))], (some 8), none⟩])
  (.block 0 (.loop (.seq (.ops [⟨(.bin .lss), [.t 8, .c (.pv (.i .i64 8))], (some 9), none⟩])
      (.seq (.ite (.t 9) .skip
        (.exit 0))
      (.seq (.block 1 (.seq (.ops [⟨.mv, [.t 8], (some 10), none⟩,
          ⟨(.ixA 8 1 false), [.t 7, .t 8], (some 11), none⟩,
          ⟨.mv, [.t 10], (some 5), none⟩,
          ⟨.mv, [.t 11], (some 6), none⟩])
        (.ops [⟨.mv, [.t 5], (some 12), none⟩,
          ⟨.mv, [.t 5], (some 13), none⟩,
          ⟨(.iaA 8 1), [.t 2, .t 13], (some 14), none⟩,
          ⟨(.ld 1 false), [.t 14], (some 15), none⟩,
          ⟨.mv, [.t 6], (some 16), none⟩,
          ⟨.mx, [.t 15, .t 16], (some 17), none⟩,
          ⟨(.iaA 8 1), [.t 2, .t 12], (some 18), none⟩,
          ⟨(.sto 1), [.t 18, .t 17], none, none⟩])))
      (.ops [⟨(.bin .add), [.t 8, .c (.pv (.i .i64 1))], (some 19), none⟩,
        ⟨.mv, [.t 19], (some 8), none⟩])))))))
  (.seq (.ops [⟨(.ld 8 true), [.t 2], (some 20), none⟩,
    ⟨(.sto 8), [.t 4, .t 20], none, none⟩])
  .ret)))
theorem fn49 : fnOf Try.prog 49 = some (21, [.c 4 8 true], ir49) := by kernel_rfl
def ir51 : C :=
  (.seq (.ops [⟨.mv, [.c (.pv (.i .u8 0))], (some 2), none⟩])
  (.seq (.ops [⟨.mv, [.c (.pv (.i .u8 1))], (some 3), none⟩])
  (.seq (.seq (.ops [⟨.mv, [.c (.pv (.i .i64 0))], (some 4), none⟩])
  (.block 0 (.loop (.seq (.seq (.ops [⟨.mv, [.t 4], (some 5), none⟩,
        ⟨.mv, [.t 0], (some 6), none⟩,
        ⟨(.bin .lss), [.t 5, .t 6], (some 7), none⟩])
      (.ite (.t 7) .skip
        (.exit 0)))
      (.seq (.block 1 (.ops [⟨.mv, [.t 3], (some 10), none⟩,
          ⟨(.bin .mul), [.t 10, .c (.pv (.i .u8 2))], (some 11), none⟩,
          ⟨.mv, [.t 11], (some 3), none⟩]))
      (.ops [⟨.mv, [.t 4], (some 8), none⟩,
        ⟨(.bin .add), [.t 8, .c (.pv (.i .i64 1))], (some 9), none⟩,
        ⟨.mv, [.t 9], (some 4), none⟩]))))))
  (.seq (.ops [⟨.mv, [.t 3], (some 12), none⟩,
    ⟨.mv, [.t 12], (some 2), none⟩])
  .ret))))
theorem fn51 : fnOf Try.prog 51 = some (13, [.t 2], ir51) := by kernel_rfl
def ir52 : C :=
  (.seq (.ops [⟨(.new (.vec 8 (List.replicate 8 (.i .i64 0)))), [], (some 2), none⟩,
    ⟨.mv, [.c (.pv (.i .i64 0))], (some 3), none⟩])
  (.seq (.ops [⟨(.bldV 8 1), [.c (.pv (.i .i64 0)), .c (.pv (.i .i64 0)), .c (.pv (.i .i64 0)), .c (.pv (.i .i64 0)), .c (.pv (.i .i64 0)), .c (.pv (.i .i64 0)), .c (.pv (.i .i64 0)), .c (.pv (.i .i64 0))], (some 13), none⟩,
    ⟨(.bldV 8 1), [.c (.pv (.i .i64 0)), .c (.pv (.i .i64 0)), .c (.pv (.i .i64 0)), .c (.pv (.i .i64 0)), .c (.pv (.i .i64 0)), .c (.pv (.i .i64 0)), .c (.pv (.i .i64 0)), .c (.pv (.i .i64 0))], (some 14), none⟩,
    ⟨(.new (.vec 8 (List.replicate 8 (.i .i64 0)))), [], (some 4), none⟩,
    ⟨(.new (.vec 8 (List.replicate 8 (.i .i64 0)))), [], (some 5), none⟩,
    ⟨(.sto 8), [.t 4, .t 13], none, none⟩,
    ⟨(.sto 8), [.t 5, .t 14], none, none⟩])
  (.seq (.seq (.ops [⟨.mv, [.t 0], (some 15), none⟩,
    ⟨.lenS, [.t 15], (some 16), none⟩,
    ⟨(.bin .lss), [.t 16, .c (.pv (.i .i64 2))], (some 17), none⟩])
  (.ite (.t 17) (.seq (.ops [⟨(.ld 8 true), [.t 4], (some 18), none⟩,
      ⟨(.sto 8), [.t 2, .t 18], none, none⟩,
      ⟨.mv, [.c (.pv (.i .i64 8))], (some 3), none⟩])
    .ret)
    .skip))
  (.seq (.ops [⟨.mv, [.t 0], (some 19), none⟩,
    ⟨(.sls true false), [.t 19, .c (.pv (.i .i64 2))], (some 20), none⟩,
    ⟨.mv, [.t 20], (some 6), none⟩])
  (.seq (.seq (.ops [⟨.mv, [.c (.pv (.i .i64 0))], (some 7), none⟩])
  (.block 0 (.loop (.seq (.seq (.ops [⟨.mv, [.t 7], (some 21), none⟩,
        ⟨(.bin .lss), [.t 21, .c (.pv (.i .i64 8))], (some 22), none⟩])
      (.ite (.t 22) .skip
        (.exit 0)))
      (.seq (.block 1 (.seq (.any [28, 36] [(⟨.mv, [.t 0], (some 25), none⟩, 0, [28, 36]),
          (⟨.ixS, [.t 25, .c (.pv (.i .i64 0))], (some 26), none⟩, 0, [28, 36]),
          (⟨.mv, [.t 7], (some 27), none⟩, 0, [28, 36]),
          (⟨(.call 51), [.t 27], (some 28), none⟩, 1, [28, 36]),
          (⟨(.bin .quo), [.t 26, .t 28], (some 29), none⟩, 0, [36]),
          (⟨(.bin .rem), [.t 29, .c (.pv (.i .u8 2))], (some 30), none⟩, 0, [28, 36]),
          (⟨(.bin .eql), [.t 30, .c (.pv (.i .u8 1))], (some 31), none⟩, 0, [28, 36]),
          (⟨.mv, [.t 31], (some 32), none⟩, 0, [36]),
          (⟨.mv, [.t 0], (some 33), (some (32, true))⟩, 0, [28, 36]),
          (⟨.ixS, [.t 33, .c (.pv (.i .i64 1))], (some 34), (some (32, true))⟩, 0, [28, 36]),
          (⟨.mv, [.t 7], (some 35), (some (32, true))⟩, 0, [28, 36]),
          (⟨(.call 51), [.t 35], (some 36), (some (32, true))⟩, 1, [28, 36]),
          (⟨(.bin .quo), [.t 34, .t 36], (some 37), (some (32, true))⟩, 0, [28]),
          (⟨(.bin .rem), [.t 37, .c (.pv (.i .u8 2))], (some 38), (some (32, true))⟩, 0, [28, 36]),
          (⟨(.bin .eql), [.t 38, .c (.pv (.i .u8 1))], (some 39), (some (32, true))⟩, 0, [28, 36]),
          (⟨.pick, [.t 32, .t 39, .c (.pv (.b false))], (some 40), none⟩, 0, [28, 36])])
        (.ite (.t 40) (.seq (.ops [⟨(.ld 8 true), [.t 4], (some 41), none⟩,
            ⟨(.sto 8), [.t 2, .t 41], none, none⟩,
            ⟨.mv, [.c (.pv (.i .i64 7))], (some 3), none⟩])
          .ret)
          .skip)))
      (.ops [⟨.mv, [.t 7], (some 23), none⟩,
        ⟨(.bin .add), [.t 23, .c (.pv (.i .i64 1))], (some 24), none⟩,
        ⟨.mv, [.t 24], (some 7), none⟩]))))))
  (.seq (.seq (.ops [⟨.mv, [.c (.pv (.i .i64 0))], (some 8), none⟩])
  (.block 2 (.loop (.seq (.seq (.ops [⟨.mv, [.t 8], (some 42), none⟩,
        ⟨(.bin .lss), [.t 42, .c (.pv (.i .i64 8))], (some 43), none⟩])
      (.ite (.t 43) .skip
        (.exit 2)))
      (.seq (.block 3 (.seq (.any [49, 56] [(⟨.mv, [.t 0], (some 46), none⟩, 0, [49, 56]),
          (⟨.ixS, [.t 46, .c (.pv (.i .i64 0))], (some 47), none⟩, 0, [49, 56]),
          (⟨.mv, [.t 8], (some 48), none⟩, 0, [49, 56]),
          (⟨(.call 51), [.t 48], (some 49), none⟩, 1, [49, 56]),
          (⟨(.bin .quo), [.t 47, .t 49], (some 50), none⟩, 0, [56]),
          (⟨(.bin .rem), [.t 50, .c (.pv (.i .u8 2))], (some 51), none⟩, 0, [49, 56]),
          (⟨(.bin .eql), [.t 51, .c (.pv (.i .u8 1))], (some 52), none⟩, 0, [49, 56]),
          (⟨.mv, [.t 0], (some 53), none⟩, 0, [49, 56]),
          (⟨.ixS, [.t 53, .c (.pv (.i .i64 1))], (some 54), none⟩, 0, [49, 56]),
          (⟨.mv, [.t 8], (some 55), none⟩, 0, [49, 56]),
          (⟨(.call 51), [.t 55], (some 56), none⟩, 1, [56]),
          (⟨(.bin .quo), [.t 54, .t 56], (some 57), none⟩, 0, [49]),
          (⟨(.bin .rem), [.t 57, .c (.pv (.i .u8 2))], (some 58), none⟩, 0, [49, 56]),
          (⟨(.bin .eql), [.t 58, .c (.pv (.i .u8 1))], (some 59), none⟩, 0, [49, 56]),
          (⟨.mv, [.t 52], (some 9), none⟩, 0, []),
          (⟨.mv, [.t 59], (some 10), none⟩, 0, [])])
        (.seq (.seq (.ops [⟨.mv, [.t 9], (some 60), none⟩,
          ⟨(.un .not), [.t 60], (some 61), none⟩,
          ⟨.mv, [.t 61], (some 62), none⟩,
          ⟨.mv, [.t 10], (some 63), (some (62, true))⟩,
          ⟨(.un .not), [.t 63], (some 64), (some (62, true))⟩,
          ⟨.pick, [.t 62, .t 64, .c (.pv (.b false))], (some 65), none⟩])
        (.ite (.t 65) (.exit 3)
          .skip))
        (.seq (.seq (.ops [⟨.mv, [.t 6], (some 66), none⟩,
          ⟨(.bin .eql), [.t 66, .c (.pv (.s []))], (some 67), none⟩,
          ⟨.mv, [.t 67], (some 68), none⟩,
          ⟨.mv, [.t 6], (some 69), (some (68, false))⟩,
          ⟨.lenS, [.t 69], (some 70), (some (68, false))⟩,
          ⟨.mv, [.t 6], (some 71), (some (68, false))⟩,
          ⟨.ixS, [.t 71, .c (.pv (.i .i64 0))], (some 72), (some (68, false))⟩,
          ⟨(.cvI .i64), [.t 72], (some 73), (some (68, false))⟩,
          ⟨(.bin .add), [.c (.pv (.i .i64 1)), .t 73], (some 74), (some (68, false))⟩,
          ⟨(.bin .lss), [.t 70, .t 74], (some 75), (some (68, false))⟩,
          ⟨.pick, [.t 68, .c (.pv (.b true)), .t 75], (some 76), none⟩])
        (.ite (.t 76) (.seq (.ops [⟨(.ld 8 true), [.t 4], (some 77), none⟩,
            ⟨(.sto 8), [.t 2, .t 77], none, none⟩,
            ⟨.mv, [.c (.pv (.i .i64 8))], (some 3), none⟩])
          .ret)
          .skip))
        (.seq (.ops [⟨.mv, [.t 6], (some 79), none⟩,
          ⟨.mv, [.t 6], (some 80), none⟩,
          ⟨.ixS, [.t 80, .c (.pv (.i .i64 0))], (some 81), none⟩,
          ⟨(.cvI .i64), [.t 81], (some 82), none⟩,
          ⟨(.bin .add), [.c (.pv (.i .i64 1)), .t 82], (some 83), none⟩,
          ⟨(.sls true true), [.t 79, .c (.pv (.i .i64 1)), .t 83], (some 84), none⟩,
          ⟨(.call 37), [.t 84], (some 85), none⟩,
          ⟨.mv, [.t 85], (some 78), none⟩,
          ⟨(.ext 0), [.t 78], (some 86), none⟩,
          ⟨(.ext 1), [.t 78], (some 87), none⟩,
          ⟨.mv, [.t 86], (some 11), none⟩,
          ⟨.mv, [.t 87], (some 12), none⟩])
        (.seq (.seq (.ops [⟨.mv, [.t 12], (some 88), none⟩,
          ⟨(.bin .neq), [.t 88, .c (.pv (.i .i64 0))], (some 89), none⟩,
          ⟨.mv, [.t 89], (some 90), none⟩,
          ⟨.mv, [.t 11], (some 91), (some (90, false))⟩,
          ⟨(.bin .lss), [.t 91, .c (.pv (.i .u64 1))], (some 92), (some (90, false))⟩,
          ⟨.pick, [.t 90, .c (.pv (.b true)), .t 92], (some 93), none⟩,
          ⟨.mv, [.t 93], (some 94), none⟩,
          ⟨.mv, [.t 11], (some 95), (some (94, false))⟩,
          ⟨(.bin .gtr), [.t 95, .c (.pv (.i .u64 4294967295))], (some 96), (some (94, false))⟩,
          ⟨.pick, [.t 94, .c (.pv (.b true)), .t 96], (some 97), none⟩])
        (.ite (.t 97) (.seq (.ops [⟨(.ld 8 true), [.t 4], (some 98), none⟩,
            ⟨(.sto 8), [.t 2, .t 98], none, none⟩,
            ⟨.mv, [.c (.pv (.i .i64 7))], (some 3), none⟩])
          .ret)
          .skip))
        (.seq (.ops [⟨.mv, [.t 8], (some 99), none⟩,
          ⟨.mv, [.t 11], (some 100), none⟩,
          ⟨(.cvI .i64), [.t 100], (some 101), none⟩,
          ⟨(.iaA 8 1), [.t 5, .t 99], (some 102), none⟩,
          ⟨(.sto 1), [.t 102, .t 101], none, none⟩])
        (.seq (.seq (.ops [⟨.mv, [.t 10], (some 103), none⟩])
        (.ite (.t 103) (.ops [⟨.mv, [.t 8], (some 104), none⟩,
            ⟨.mv, [.t 11], (some 105), none⟩,
            ⟨(.cvI .i64), [.t 105], (some 106), none⟩,
            ⟨(.un .neg), [.t 106], (some 107), none⟩,
            ⟨(.iaA 8 1), [.t 5, .t 104], (some 108), none⟩,
            ⟨(.sto 1), [.t 108, .t 107], none, none⟩])
          .skip))
        (.ops [⟨.mv, [.t 6], (some 109), none⟩,
          ⟨.mv, [.t 6], (some 110), none⟩,
          ⟨.ixS, [.t 110, .c (.pv (.i .i64 0))], (some 111), none⟩,
          ⟨(.cvI .i64), [.t 111], (some 112), none⟩,
          ⟨(.bin .add), [.c (.pv (.i .i64 1)), .t 112], (some 113), none⟩,
          ⟨(.sls true false), [.t 109, .t 113], (some 114), none⟩,
          ⟨.mv, [.t 114], (some 6), none⟩])))))))))
      (.ops [⟨.mv, [.t 8], (some 44), none⟩,
        ⟨(.bin .add), [.t 44, .c (.pv (.i .i64 1))], (some 45), none⟩,
        ⟨.mv, [.t 45], (some 8), none⟩]))))))
  (.seq (.seq (.ops [⟨.mv, [.t 6], (some 115), none⟩,
    ⟨(.bin .neq), [.t 115, .c (.pv (.s []))], (some 116), none⟩])
  (.ite (.t 116) (.seq (.ops [⟨(.ld 8 true), [.t 4], (some 117), none⟩,
      ⟨(.sto 8), [.t 2, .t 117], none, none⟩,
      ⟨.mv, [.c (.pv (.i .i64 4))], (some 3), none⟩])
    .ret)
    .skip))
  (.seq (.ops [⟨(.ld 8 true), [.t 5], (some 118), none⟩,
    ⟨(.sto 8), [.t 2, .t 118], none, none⟩,
    ⟨.mv, [.c (.pv (.i .i64 0))], (some 3), none⟩])
  .ret))))))))
theorem fn52 : fnOf Try.prog 52 = some (119, [.c 2 8 true, .t 3], ir52) := by kernel_rfl
end Go.Proofs.Ytjlblbbhmmconaa.Fw
