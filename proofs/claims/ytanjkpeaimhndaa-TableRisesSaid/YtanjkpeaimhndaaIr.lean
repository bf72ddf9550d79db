/- The functions of the program in the small language, each checked against the program. -/
import Derived.Test.YtanjkpeaimhndaaFwC
import Derived.Test.YtanjkpeaimhndaaProg
import Derived.ProofKit
set_option linter.unusedVariables false
set_option linter.unusedSimpArgs false
set_option linter.unusedSectionVars false
set_option maxRecDepth 100000
namespace Go.Proofs.Ytanjkpeaimhndaa.Fw
open Go.Proofs
theorem mixed : Try.prog.follows .mixedOrders = true := by kernel_rfl
def ir10 : C :=
  (.seq (.ops [⟨.box, [.t 0], (some 3), none⟩,
    ⟨.box, [.t 1], (some 4), none⟩,
    ⟨.box, [.t 2], (some 5), none⟩,
    ⟨.mv, [.c (.pv (.b false))], (some 6), none⟩])
  (.seq (.seq (.ops [⟨(.call 23), [], (some 14), none⟩,
    ⟨(.un .not), [.t 14], (some 15), none⟩])
  (.ite (.t 15) (.seq (.ops [⟨.mv, [.c (.pv (.b false))], (some 6), none⟩])
    .ret)
    .skip))
  (.seq (.ops [⟨(.ld 64 true), [.t 3], (some 16), none⟩,
    ⟨(.fa 0), [.t 4], (some 17), none⟩,
    ⟨(.ld 1 false), [.t 17], (some 18), none⟩,
    ⟨(.fa 1), [.t 4], (some 19), none⟩,
    ⟨(.ld 8 true), [.t 19], (some 20), none⟩,
    ⟨(.call 24), [.t 16, .t 18, .t 20], (some 21), none⟩,
    ⟨(.new (.vec 64 (List.replicate 64 (.i .u32 0)))), [], (some 7), none⟩,
    ⟨(.sto 64), [.t 7, .t 21], none, none⟩])
  (.seq (.any [24, 26, 8, 9] [(⟨(.ld 64 true), [.t 3], (some 22), none⟩, 1),
    (⟨(.ld 8 true), [.t 5], (some 23), none⟩, 1),
    (⟨(.call 25), [.t 22, .t 23], (some 24), none⟩, 1),
    (⟨(.ld 64 true), [.t 3], (some 25), none⟩, 1),
    (⟨(.call 26), [.t 25], (some 26), none⟩, 1),
    (⟨(.new (.vec 8 (List.replicate 8 (.i .u32 0)))), [], (some 8), none⟩, 1),
    (⟨(.new (.vec 8 (List.replicate 8 (.i .u32 0)))), [], (some 9), none⟩, 1),
    (⟨(.sto 8), [.t 8, .t 24], none, none⟩, 2),
    (⟨(.sto 8), [.t 9, .t 26], none, none⟩, 2)])
  (.seq (.seq (.any [30, 31, 36, 37] [(⟨(.ld 8 true), [.t 8], (some 27), none⟩, 1),
    (⟨(.ld 64 true), [.t 7], (some 28), none⟩, 1),
    (⟨(.ld 8 true), [.t 5], (some 29), none⟩, 1),
    (⟨(.call 25), [.t 28, .t 29], (some 30), none⟩, 1),
    (⟨(.call 27), [.t 27, .t 30], (some 31), none⟩, 1),
    (⟨(.un .not), [.t 31], (some 32), none⟩, 0),
    (⟨.mv, [.t 32], (some 33), none⟩, 0),
    (⟨(.ld 8 true), [.t 9], (some 34), (some (33, false))⟩, 1),
    (⟨(.ld 64 true), [.t 7], (some 35), (some (33, false))⟩, 1),
    (⟨(.call 26), [.t 35], (some 36), (some (33, false))⟩, 1),
    (⟨(.call 27), [.t 34, .t 36], (some 37), (some (33, false))⟩, 1),
    (⟨(.un .not), [.t 37], (some 38), (some (33, false))⟩, 0),
    (⟨.pick, [.t 33, .c (.pv (.b true)), .t 38], (some 39), none⟩, 0)])
  (.ite (.t 39) (.seq (.ops [⟨.mv, [.c (.pv (.b false))], (some 6), none⟩])
    .ret)
    .skip))
  (.seq (.ops [⟨.mv, [.c (.pv (.i .i64 0))], (some 10), none⟩])
  (.seq (.seq (.ops [⟨.mv, [.c (.pv (.i .i64 0))], (some 40), none⟩])
  (.block 0 (.loop (.seq (.ops [⟨(.bin .lss), [.t 40, .c (.pv (.i .i64 8))], (some 41), none⟩])
      (.seq (.ite (.t 41) .skip
        (.exit 0))
      (.seq (.block 1 (.seq (.ops [⟨.mv, [.t 40], (some 42), none⟩,
          ⟨.mv, [.t 42], (some 11), none⟩])
        (.seq (.seq (.ops [⟨.mv, [.t 11], (some 43), none⟩,
          ⟨(.iaA 8 1), [.t 5, .t 43], (some 44), none⟩,
          ⟨(.ld 1 false), [.t 44], (some 45), none⟩])
        (.ite (.t 45) (.ops [⟨.mv, [.t 10], (some 46), none⟩,
            ⟨(.bin .add), [.t 46, .c (.pv (.i .i64 1))], (some 47), none⟩,
            ⟨.mv, [.t 47], (some 10), none⟩])
          .skip))
        (.seq (.any [56, 64] [(⟨.mv, [.t 11], (some 48), none⟩, 0),
          (⟨(.iaA 8 1), [.t 5, .t 48], (some 49), none⟩, 0),
          (⟨(.ld 1 false), [.t 49], (some 50), none⟩, 1),
          (⟨.mv, [.t 50], (some 51), none⟩, 0),
          (⟨(.ld 8 true), [.t 8], (some 52), (some (51, true))⟩, 1),
          (⟨.mv, [.t 11], (some 53), (some (51, true))⟩, 0),
          (⟨(.iaA 8 8), [.t 3, .t 53], (some 54), (some (51, true))⟩, 0),
          (⟨(.ld 8 true), [.t 54], (some 55), (some (51, true))⟩, 1),
          (⟨(.call 27), [.t 52, .t 55], (some 56), (some (51, true))⟩, 1),
          (⟨(.un .not), [.t 56], (some 57), (some (51, true))⟩, 0),
          (⟨.pick, [.t 51, .t 57, .c (.pv (.b false))], (some 58), none⟩, 0),
          (⟨.mv, [.t 58], (some 59), none⟩, 0),
          (⟨.mv, [.t 11], (some 60), (some (59, false))⟩, 0),
          (⟨(.iaA 8 8), [.t 3, .t 60], (some 61), (some (59, false))⟩, 0),
          (⟨(.ld 8 true), [.t 61], (some 62), (some (59, false))⟩, 1),
          (⟨(.ld 8 true), [.t 9], (some 63), (some (59, false))⟩, 1),
          (⟨(.call 27), [.t 62, .t 63], (some 64), (some (59, false))⟩, 1),
          (⟨(.un .not), [.t 64], (some 65), (some (59, false))⟩, 0),
          (⟨.pick, [.t 59, .c (.pv (.b true)), .t 65], (some 66), none⟩, 0)])
        (.ite (.t 66) (.seq (.ops [⟨.mv, [.c (.pv (.b false))], (some 6), none⟩])
          .ret)
          .skip)))))
      (.ops [⟨(.bin .add), [.t 40, .c (.pv (.i .i64 1))], (some 67), none⟩,
        ⟨.mv, [.t 67], (some 40), none⟩])))))))
  (.seq (.seq (.ops [⟨.mv, [.c (.pv (.i .i64 0))], (some 68), none⟩])
  (.block 2 (.loop (.seq (.ops [⟨(.bin .lss), [.t 68, .c (.pv (.i .i64 8))], (some 69), none⟩])
      (.seq (.ite (.t 69) .skip
        (.exit 2))
      (.seq (.block 3 (.seq (.ops [⟨.mv, [.t 68], (some 70), none⟩,
          ⟨.mv, [.t 70], (some 12), none⟩])
        (.seq (.ops [⟨(.ld 8 true), [.t 5], (some 71), none⟩,
          ⟨(.new (.vec 8 (List.replicate 8 (.b false)))), [], (some 13), none⟩,
          ⟨(.sto 8), [.t 13, .t 71], none, none⟩])
        (.seq (.ops [⟨.mv, [.t 12], (some 72), none⟩,
          ⟨(.iaA 8 1), [.t 13, .t 72], (some 73), none⟩,
          ⟨(.sto 1), [.t 73, .c (.pv (.b false))], none, none⟩])
        (.seq (.any [85, 86] [(⟨.mv, [.t 12], (some 74), none⟩, 0),
          (⟨(.iaA 8 1), [.t 5, .t 74], (some 75), none⟩, 0),
          (⟨(.ld 1 false), [.t 75], (some 76), none⟩, 1),
          (⟨.mv, [.t 76], (some 77), none⟩, 0),
          (⟨.mv, [.t 10], (some 78), (some (77, true))⟩, 0),
          (⟨(.bin .gtr), [.t 78, .c (.pv (.i .i64 1))], (some 79), (some (77, true))⟩, 0),
          (⟨.pick, [.t 77, .t 79, .c (.pv (.b false))], (some 80), none⟩, 0),
          (⟨.mv, [.t 80], (some 81), none⟩, 0),
          (⟨(.ld 8 true), [.t 8], (some 82), (some (81, true))⟩, 1),
          (⟨(.ld 64 true), [.t 3], (some 83), (some (81, true))⟩, 1),
          (⟨(.ld 8 true), [.t 13], (some 84), (some (81, true))⟩, 1),
          (⟨(.call 25), [.t 83, .t 84], (some 85), (some (81, true))⟩, 1),
          (⟨(.call 27), [.t 82, .t 85], (some 86), (some (81, true))⟩, 1),
          (⟨(.un .not), [.t 86], (some 87), (some (81, true))⟩, 0),
          (⟨.pick, [.t 81, .t 87, .c (.pv (.b false))], (some 88), none⟩, 0)])
        (.ite (.t 88) (.seq (.ops [⟨.mv, [.c (.pv (.b false))], (some 6), none⟩])
          .ret)
          .skip))))))
      (.ops [⟨(.bin .add), [.t 68, .c (.pv (.i .i64 1))], (some 89), none⟩,
        ⟨.mv, [.t 89], (some 68), none⟩])))))))
  (.seq (.ops [⟨.mv, [.c (.pv (.b true))], (some 6), none⟩])
  .ret)))))))))
theorem fn10 : fnOf Try.prog 10 = some (90, [.t 6], ir10) := by kernel_rfl
def ir23 : C :=
  (.seq (.ops [⟨.mv, [.c (.pv (.b false))], (some 0), none⟩])
  (.seq (.ops [⟨(.bldV 64 8), [.c (.vec 8 (List.replicate 8 (.i .u32 0))), .c (.vec 8 (List.replicate 8 (.i .u32 0))), .c (.vec 8 (List.replicate 8 (.i .u32 0))), .c (.vec 8 (List.replicate 8 (.i .u32 0))), .c (.vec 8 (List.replicate 8 (.i .u32 0))), .c (.vec 8 (List.replicate 8 (.i .u32 0))), .c (.vec 8 (List.replicate 8 (.i .u32 0))), .c (.vec 8 (List.replicate 8 (.i .u32 0)))], (some 2), none⟩,
    ⟨(.bldV 8 1), [.c (.pv (.i .u32 2)), .c (.pv (.i .u32 0)), .c (.pv (.i .u32 0)), .c (.pv (.i .u32 0)), .c (.pv (.i .u32 0)), .c (.pv (.i .u32 0)), .c (.pv (.i .u32 0)), .c (.pv (.i .u32 0))], (some 3), none⟩,
    ⟨(.call 24), [.t 2, .c (.pv (.i .i64 1)), .t 3], (some 4), none⟩,
    ⟨(.bldV 8 1), [.c (.pv (.i .u32 1)), .c (.pv (.i .u32 3)), .c (.pv (.i .u32 0)), .c (.pv (.i .u32 0)), .c (.pv (.i .u32 0)), .c (.pv (.i .u32 0)), .c (.pv (.i .u32 0)), .c (.pv (.i .u32 0))], (some 5), none⟩,
    ⟨(.call 24), [.t 4, .c (.pv (.i .i64 2)), .t 5], (some 6), none⟩,
    ⟨(.new (.vec 64 (List.replicate 64 (.i .u32 0)))), [], (some 1), none⟩,
    ⟨(.sto 64), [.t 1, .t 6], none, none⟩])
  (.seq (.ops [⟨(.ld 64 true), [.t 1], (some 7), none⟩,
    ⟨(.bldV 8 1), [.c (.pv (.b true)), .c (.pv (.b true)), .c (.pv (.b false)), .c (.pv (.b false)), .c (.pv (.b false)), .c (.pv (.b false)), .c (.pv (.b false)), .c (.pv (.b false))], (some 8), none⟩,
    ⟨(.call 25), [.t 7, .t 8], (some 9), none⟩,
    ⟨(.bldV 8 1), [.c (.pv (.i .u32 1)), .c (.pv (.i .u32 0)), .c (.pv (.i .u32 0)), .c (.pv (.i .u32 0)), .c (.pv (.i .u32 0)), .c (.pv (.i .u32 0)), .c (.pv (.i .u32 0)), .c (.pv (.i .u32 0))], (some 10), none⟩,
    ⟨(.eqv false [.int .u32, .int .u32, .int .u32, .int .u32, .int .u32, .int .u32, .int .u32, .int .u32]), [.t 9, .t 10], (some 11), none⟩,
    ⟨.mv, [.t 11], (some 12), none⟩,
    ⟨(.ld 64 true), [.t 1], (some 13), (some (12, true))⟩,
    ⟨(.call 26), [.t 13], (some 14), (some (12, true))⟩,
    ⟨(.bldV 8 1), [.c (.pv (.i .u32 2)), .c (.pv (.i .u32 3)), .c (.pv (.i .u32 0)), .c (.pv (.i .u32 0)), .c (.pv (.i .u32 0)), .c (.pv (.i .u32 0)), .c (.pv (.i .u32 0)), .c (.pv (.i .u32 0))], (some 15), (some (12, true))⟩,
    ⟨(.eqv false [.int .u32, .int .u32, .int .u32, .int .u32, .int .u32, .int .u32, .int .u32, .int .u32]), [.t 14, .t 15], (some 16), (some (12, true))⟩,
    ⟨.pick, [.t 12, .t 16, .c (.pv (.b false))], (some 17), none⟩,
    ⟨.mv, [.t 17], (some 18), none⟩,
    ⟨(.ld 64 true), [.t 1], (some 19), (some (18, true))⟩,
    ⟨(.call 31), [.t 19, .c (.pv (.i .i64 2))], (some 20), (some (18, true))⟩,
    ⟨(.bldV 8 1), [.c (.pv (.i .u32 1)), .c (.pv (.i .u32 3)), .c (.pv (.i .u32 0)), .c (.pv (.i .u32 0)), .c (.pv (.i .u32 0)), .c (.pv (.i .u32 0)), .c (.pv (.i .u32 0)), .c (.pv (.i .u32 0))], (some 21), (some (18, true))⟩,
    ⟨(.eqv false [.int .u32, .int .u32, .int .u32, .int .u32, .int .u32, .int .u32, .int .u32, .int .u32]), [.t 20, .t 21], (some 22), (some (18, true))⟩,
    ⟨.pick, [.t 18, .t 22, .c (.pv (.b false))], (some 23), none⟩,
    ⟨.mv, [.t 23], (some 0), none⟩])
  .ret)))
theorem fn23 : fnOf Try.prog 23 = some (24, [.t 0], ir23) := by kernel_rfl
def ir24 : C :=
  (.seq (.ops [⟨.box, [.t 0], (some 3), none⟩,
    ⟨.box, [.t 2], (some 5), none⟩,
    ⟨(.new (.vec 64 (List.replicate 64 (.i .u32 0)))), [], (some 6), none⟩])
  (.seq (.seq (.ops [⟨.mv, [.t 1], (some 7), none⟩,
    ⟨(.bin .geq), [.t 7, .c (.pv (.i .i64 1))], (some 8), none⟩,
    ⟨.mv, [.t 8], (some 9), none⟩,
    ⟨.mv, [.t 1], (some 10), (some (9, true))⟩,
    ⟨(.bin .leq), [.t 10, .c (.pv (.i .i64 8))], (some 11), (some (9, true))⟩,
    ⟨.pick, [.t 9, .t 11, .c (.pv (.b false))], (some 12), none⟩])
  (.ite (.t 12) (.any [20] [(⟨.mv, [.t 1], (some 13), none⟩, 0),
      (⟨(.bin .sub), [.t 13, .c (.pv (.i .i64 1))], (some 14), none⟩, 0),
      (⟨.mv, [.t 1], (some 15), none⟩, 0),
      (⟨(.bin .sub), [.t 15, .c (.pv (.i .i64 1))], (some 16), none⟩, 0),
      (⟨(.iaA 8 8), [.t 3, .t 16], (some 17), none⟩, 0),
      (⟨(.ld 8 true), [.t 17], (some 18), none⟩, 1),
      (⟨(.ld 8 true), [.t 5], (some 19), none⟩, 1),
      (⟨(.call 39), [.t 18, .t 19], (some 20), none⟩, 1),
      (⟨(.iaA 8 8), [.t 3, .t 14], (some 21), none⟩, 0),
      (⟨(.sto 8), [.t 21, .t 20], none, none⟩, 2)])
    .skip))
  (.seq (.ops [⟨(.ld 64 true), [.t 3], (some 22), none⟩,
    ⟨(.sto 64), [.t 6, .t 22], none, none⟩])
  .ret)))
theorem fn24 : fnOf Try.prog 24 = some (23, [.c 6 64 true], ir24) := by kernel_rfl
def ir25 : C :=
  (.seq (.ops [⟨.box, [.t 0], (some 2), none⟩,
    ⟨.box, [.t 1], (some 3), none⟩,
    ⟨(.new (.vec 8 (List.replicate 8 (.i .u32 0)))), [], (some 4), none⟩])
  (.seq (.ops [⟨(.new (.vec 8 (List.replicate 8 (.i .u32 0)))), [], (some 5), none⟩])
  (.seq (.ops [⟨.mv, [.c (.pv (.b false))], (some 6), none⟩])
  (.seq (.seq (.ops [⟨(.ld 64 true), [.t 2], (some 9), none⟩,
    ⟨.mv, [.c (.pv (.i .i64 0))], (some 10), none⟩])
  (.block 0 (.loop (.seq (.ops [⟨(.bin .lss), [.t 10, .c (.pv (.i .i64 8))], (some 11), none⟩])
      (.seq (.ite (.t 11) .skip
        (.exit 0))
      (.seq (.block 1 (.seq (.ops [⟨.mv, [.t 10], (some 12), none⟩,
          ⟨(.ixA 8 8 true), [.t 9, .t 10], (some 13), none⟩,
          ⟨(.new (.vec 8 (List.replicate 8 (.i .u32 0)))), [], (some 8), none⟩,
          ⟨.mv, [.t 12], (some 7), none⟩,
          ⟨(.sto 8), [.t 8, .t 13], none, none⟩])
        (.block 2 (.seq (.ops [⟨.mv, [.t 7], (some 16), none⟩,
            ⟨(.iaA 8 1), [.t 3, .t 16], (some 17), none⟩,
            ⟨(.ld 1 false), [.t 17], (some 18), none⟩,
            ⟨(.un .not), [.t 18], (some 19), none⟩,
            ⟨.mv, [.t 19], (some 15), none⟩])
          (.ite (.t 15) .skip
            (.seq (.ops [⟨.mv, [.t 6], (some 21), none⟩,
              ⟨.mv, [.t 21], (some 20), none⟩])
            (.ite (.t 20) (.ops [⟨(.ld 8 true), [.t 5], (some 22), none⟩,
                ⟨(.ld 8 true), [.t 8], (some 23), none⟩,
                ⟨(.call 40), [.t 22, .t 23], (some 24), none⟩,
                ⟨(.sto 8), [.t 5, .t 24], none, none⟩])
              (.ops [⟨(.ld 8 true), [.t 8], (some 14), none⟩,
                ⟨(.sto 8), [.t 5, .t 14], none, none⟩,
                ⟨.mv, [.c (.pv (.b true))], (some 6), none⟩]))))))))
      (.ops [⟨(.bin .add), [.t 10, .c (.pv (.i .i64 1))], (some 25), none⟩,
        ⟨.mv, [.t 25], (some 10), none⟩])))))))
  (.seq (.ops [⟨(.ld 8 true), [.t 5], (some 26), none⟩,
    ⟨(.sto 8), [.t 4, .t 26], none, none⟩])
  .ret)))))
theorem fn25 : fnOf Try.prog 25 = some (27, [.c 4 8 true], ir25) := by kernel_rfl
def ir26 : C :=
  (.seq (.ops [⟨.box, [.t 0], (some 1), none⟩,
    ⟨(.new (.vec 8 (List.replicate 8 (.i .u32 0)))), [], (some 2), none⟩])
  (.seq (.ops [⟨(.new (.vec 8 (List.replicate 8 (.i .u32 0)))), [], (some 3), none⟩])
  (.seq (.seq (.ops [⟨(.ld 64 true), [.t 1], (some 6), none⟩,
    ⟨.mv, [.c (.pv (.i .i64 0))], (some 7), none⟩])
  (.block 0 (.loop (.seq (.ops [⟨(.bin .lss), [.t 7, .c (.pv (.i .i64 8))], (some 8), none⟩])
      (.seq (.ite (.t 8) .skip
        (.exit 0))
      (.seq (.block 1 (.seq (.ops [⟨(.ixA 8 8 true), [.t 6, .t 7], (some 9), none⟩,
          ⟨(.new (.vec 8 (List.replicate 8 (.i .u32 0)))), [], (some 5), none⟩,
          ⟨(.sto 8), [.t 5, .t 9], none, none⟩])
        (.ops [⟨(.ld 8 true), [.t 3], (some 10), none⟩,
          ⟨(.ld 8 true), [.t 5], (some 11), none⟩,
          ⟨(.call 39), [.t 10, .t 11], (some 12), none⟩,
          ⟨(.sto 8), [.t 3, .t 12], none, none⟩])))
      (.ops [⟨(.bin .add), [.t 7, .c (.pv (.i .i64 1))], (some 13), none⟩,
        ⟨.mv, [.t 13], (some 7), none⟩])))))))
  (.seq (.ops [⟨(.ld 8 true), [.t 3], (some 14), none⟩,
    ⟨(.sto 8), [.t 2, .t 14], none, none⟩])
  .ret))))
theorem fn26 : fnOf Try.prog 26 = some (15, [.c 2 8 true], ir26) := by kernel_rfl
def ir27 : C :=
  (.seq (.ops [⟨.box, [.t 0], (some 2), none⟩,
    ⟨.box, [.t 1], (some 3), none⟩,
    ⟨.mv, [.c (.pv (.b false))], (some 4), none⟩])
  (.seq (.ops [⟨(.ld 8 true), [.t 2], (some 5), none⟩,
    ⟨(.ld 8 true), [.t 3], (some 6), none⟩,
    ⟨(.call 41), [.t 5, .t 6], (some 7), none⟩,
    ⟨(.bin .leq), [.t 7, .c (.pv (.i .i64 0))], (some 8), none⟩,
    ⟨.mv, [.t 8], (some 4), none⟩])
  .ret))
theorem fn27 : fnOf Try.prog 27 = some (9, [.t 4], ir27) := by kernel_rfl
def ir28 : C :=
  (.seq (.ops [⟨.box, [.t 0], (some 3), none⟩,
    ⟨.box, [.t 2], (some 5), none⟩,
    ⟨(.new (.vec 64 (List.replicate 64 (.i .u32 0)))), [], (some 6), none⟩])
  (.seq (.seq (.ops [⟨.mv, [.c (.pv (.i .i64 0))], (some 7), none⟩])
  (.block 0 (.loop (.seq (.seq (.ops [⟨.mv, [.t 7], (some 9), none⟩,
        ⟨(.bin .lss), [.t 9, .c (.pv (.i .i64 8))], (some 10), none⟩])
      (.ite (.t 10) .skip
        (.exit 0)))
      (.seq (.block 1 (.seq (.ops [⟨.mv, [.c (.pv (.i .i64 0))], (some 8), none⟩])
        (.block 2 (.loop (.seq (.seq (.ops [⟨.mv, [.t 8], (some 13), none⟩,
              ⟨(.bin .lss), [.t 13, .c (.pv (.i .i64 8))], (some 14), none⟩])
            (.ite (.t 14) .skip
              (.exit 2)))
            (.seq (.block 3 (.seq (.any [] [(⟨.mv, [.t 7], (some 17), none⟩, 0),
                (⟨(.bin .add), [.t 17, .c (.pv (.i .i64 1))], (some 18), none⟩, 0),
                (⟨.mv, [.t 1], (some 19), none⟩, 0),
                (⟨(.bin .eql), [.t 18, .t 19], (some 20), none⟩, 0),
                (⟨.mv, [.t 20], (some 21), none⟩, 0),
                (⟨.mv, [.t 8], (some 22), (some (21, true))⟩, 0),
                (⟨(.iaA 8 1), [.t 5, .t 22], (some 23), (some (21, true))⟩, 0),
                (⟨(.ld 1 false), [.t 23], (some 24), (some (21, true))⟩, 1),
                (⟨.mv, [.t 7], (some 25), (some (21, true))⟩, 0),
                (⟨.mv, [.t 8], (some 26), (some (21, true))⟩, 0),
                (⟨(.iaA 8 8), [.t 3, .t 25], (some 27), (some (21, true))⟩, 0),
                (⟨(.iaA 8 1), [.t 27, .t 26], (some 28), (some (21, true))⟩, 0),
                (⟨(.ld 1 false), [.t 28], (some 29), (some (21, true))⟩, 1),
                (⟨(.bin .gtr), [.t 24, .t 29], (some 30), (some (21, true))⟩, 0),
                (⟨.pick, [.t 21, .t 30, .c (.pv (.b false))], (some 31), none⟩, 0)])
              (.ite (.t 31) (.any [] [(⟨.mv, [.t 7], (some 32), none⟩, 0),
                  (⟨.mv, [.t 8], (some 33), none⟩, 0),
                  (⟨.mv, [.t 8], (some 34), none⟩, 0),
                  (⟨(.iaA 8 1), [.t 5, .t 34], (some 35), none⟩, 0),
                  (⟨(.ld 1 false), [.t 35], (some 36), none⟩, 1),
                  (⟨(.iaA 8 8), [.t 3, .t 32], (some 37), none⟩, 0),
                  (⟨(.iaA 8 1), [.t 37, .t 33], (some 38), none⟩, 0),
                  (⟨(.sto 1), [.t 38, .t 36], none, none⟩, 2)])
                .skip)))
            (.ops [⟨.mv, [.t 8], (some 15), none⟩,
              ⟨(.bin .add), [.t 15, .c (.pv (.i .i64 1))], (some 16), none⟩,
              ⟨.mv, [.t 16], (some 8), none⟩])))))))
      (.ops [⟨.mv, [.t 7], (some 11), none⟩,
        ⟨(.bin .add), [.t 11, .c (.pv (.i .i64 1))], (some 12), none⟩,
        ⟨.mv, [.t 12], (some 7), none⟩]))))))
  (.seq (.ops [⟨(.ld 64 true), [.t 3], (some 39), none⟩,
    ⟨(.sto 64), [.t 6, .t 39], none, none⟩])
  .ret)))
theorem fn28 : fnOf Try.prog 28 = some (40, [.c 6 64 true], ir28) := by kernel_rfl
def ir29 : C :=
  (.seq (.ops [⟨.box, [.t 0], (some 2), none⟩,
    ⟨.box, [.t 1], (some 3), none⟩,
    ⟨(.new (.vec 64 (List.replicate 64 (.i .u32 0)))), [], (some 4), none⟩])
  (.seq (.seq (.ops [⟨(.ld 64 true), [.t 3], (some 7), none⟩,
    ⟨.mv, [.c (.pv (.i .i64 0))], (some 8), none⟩])
  (.block 0 (.loop (.seq (.ops [⟨(.bin .lss), [.t 8, .c (.pv (.i .i64 8))], (some 9), none⟩])
      (.seq (.ite (.t 9) .skip
        (.exit 0))
      (.seq (.block 1 (.seq (.ops [⟨.mv, [.t 8], (some 10), none⟩,
          ⟨(.ixA 8 8 true), [.t 7, .t 8], (some 11), none⟩,
          ⟨(.new (.vec 8 (List.replicate 8 (.i .u32 0)))), [], (some 6), none⟩,
          ⟨.mv, [.t 10], (some 5), none⟩,
          ⟨(.sto 8), [.t 6, .t 11], none, none⟩])
        (.any [17] [(⟨.mv, [.t 5], (some 12), none⟩, 0),
          (⟨.mv, [.t 5], (some 13), none⟩, 0),
          (⟨(.iaA 8 8), [.t 2, .t 13], (some 14), none⟩, 0),
          (⟨(.ld 8 true), [.t 14], (some 15), none⟩, 1),
          (⟨(.ld 8 true), [.t 6], (some 16), none⟩, 1),
          (⟨(.call 39), [.t 15, .t 16], (some 17), none⟩, 1),
          (⟨(.iaA 8 8), [.t 2, .t 12], (some 18), none⟩, 0),
          (⟨(.sto 8), [.t 18, .t 17], none, none⟩, 2)])))
      (.ops [⟨(.bin .add), [.t 8, .c (.pv (.i .i64 1))], (some 19), none⟩,
        ⟨.mv, [.t 19], (some 8), none⟩])))))))
  (.seq (.ops [⟨(.ld 64 true), [.t 2], (some 20), none⟩,
    ⟨(.sto 64), [.t 4, .t 20], none, none⟩])
  .ret)))
theorem fn29 : fnOf Try.prog 29 = some (21, [.c 4 64 true], ir29) := by kernel_rfl
def ir30 : C :=
  (.seq (.ops [⟨.box, [.t 0], (some 2), none⟩,
    ⟨.box, [.t 1], (some 3), none⟩,
    ⟨(.new (.vec 64 (List.replicate 64 (.i .u32 0)))), [], (some 4), none⟩])
  (.seq (.seq (.ops [⟨.mv, [.c (.pv (.i .i64 0))], (some 5), none⟩])
  (.block 0 (.loop (.seq (.seq (.ops [⟨.mv, [.t 5], (some 6), none⟩,
        ⟨(.bin .lss), [.t 6, .c (.pv (.i .i64 8))], (some 7), none⟩])
      (.ite (.t 7) .skip
        (.exit 0)))
      (.seq (.block 1 (.any [16] [(⟨(.ld 64 true), [.t 2], (some 10), none⟩, 1),
          (⟨.mv, [.t 5], (some 11), none⟩, 0),
          (⟨(.bin .add), [.t 11, .c (.pv (.i .i64 1))], (some 12), none⟩, 0),
          (⟨.mv, [.t 5], (some 13), none⟩, 0),
          (⟨(.iaA 8 8), [.t 3, .t 13], (some 14), none⟩, 0),
          (⟨(.ld 8 true), [.t 14], (some 15), none⟩, 1),
          (⟨(.call 28), [.t 10, .t 12, .t 15], (some 16), none⟩, 1),
          (⟨(.sto 64), [.t 2, .t 16], none, none⟩, 2)]))
      (.ops [⟨.mv, [.t 5], (some 8), none⟩,
        ⟨(.bin .add), [.t 8, .c (.pv (.i .i64 1))], (some 9), none⟩,
        ⟨.mv, [.t 9], (some 5), none⟩]))))))
  (.seq (.ops [⟨(.ld 64 true), [.t 2], (some 17), none⟩,
    ⟨(.sto 64), [.t 4, .t 17], none, none⟩])
  .ret)))
theorem fn30 : fnOf Try.prog 30 = some (18, [.c 4 64 true], ir30) := by kernel_rfl
def ir31 : C :=
  (.seq (.ops [⟨.box, [.t 0], (some 2), none⟩,
    ⟨(.new (.vec 8 (List.replicate 8 (.i .u32 0)))), [], (some 4), none⟩])
  (.seq (.seq (.ops [⟨.mv, [.t 1], (some 5), none⟩,
    ⟨(.bin .lss), [.t 5, .c (.pv (.i .i64 1))], (some 6), none⟩,
    ⟨.mv, [.t 6], (some 7), none⟩,
    ⟨.mv, [.t 1], (some 8), (some (7, false))⟩,
    ⟨(.bin .gtr), [.t 8, .c (.pv (.i .i64 8))], (some 9), (some (7, false))⟩,
    ⟨.pick, [.t 7, .c (.pv (.b true)), .t 9], (some 10), none⟩])
  (.ite (.t 10) (.seq (.ops [⟨(.bldV 8 1), [.c (.pv (.i .u32 0)), .c (.pv (.i .u32 0)), .c (.pv (.i .u32 0)), .c (.pv (.i .u32 0)), .c (.pv (.i .u32 0)), .c (.pv (.i .u32 0)), .c (.pv (.i .u32 0)), .c (.pv (.i .u32 0))], (some 11), none⟩,
      ⟨(.sto 8), [.t 4, .t 11], none, none⟩])
    .ret)
    .skip))
  (.seq (.ops [⟨.mv, [.t 1], (some 12), none⟩,
    ⟨(.bin .sub), [.t 12, .c (.pv (.i .i64 1))], (some 13), none⟩,
    ⟨(.iaA 8 8), [.t 2, .t 13], (some 14), none⟩,
    ⟨(.ld 8 true), [.t 14], (some 15), none⟩,
    ⟨(.sto 8), [.t 4, .t 15], none, none⟩])
  .ret)))
theorem fn31 : fnOf Try.prog 31 = some (16, [.c 4 8 true], ir31) := by kernel_rfl
def ir39 : C :=
  (.seq (.ops [⟨.box, [.t 0], (some 2), none⟩,
    ⟨.box, [.t 1], (some 3), none⟩,
    ⟨(.new (.vec 8 (List.replicate 8 (.i .u32 0)))), [], (some 4), none⟩])
  (.seq (.seq (.ops [⟨(.ld 8 true), [.t 3], (some 7), none⟩,
    ⟨.mv, [.c (.pv (.i .i64 0))], (some 8), none⟩])
  (.block 0 (.loop (.seq (.ops [⟨(.bin .lss), [.t 8, .c (.pv (.i .i64 8))], (some 9), none⟩])
      (.seq (.ite (.t 9) .skip
        (.exit 0))
      (.seq (.block 1 (.seq (.ops [⟨.mv, [.t 8], (some 10), none⟩,
          ⟨(.ixA 8 1 false), [.t 7, .t 8], (some 11), none⟩,
          ⟨.mv, [.t 10], (some 5), none⟩,
          ⟨.mv, [.t 11], (some 6), none⟩])
        (.ops [⟨.mv, [.t 5], (some 12), none⟩,
          ⟨.mv, [.t 5], (some 13), none⟩,
          ⟨(.iaA 8 1), [.t 2, .t 13], (some 14), none⟩,
          ⟨(.ld 1 false), [.t 14], (some 15), none⟩,
          ⟨.mv, [.t 6], (some 16), none⟩,
          ⟨.mx, [.t 15, .t 16], (some 17), none⟩,
          ⟨(.iaA 8 1), [.t 2, .t 12], (some 18), none⟩,
          ⟨(.sto 1), [.t 18, .t 17], none, none⟩])))
      (.ops [⟨(.bin .add), [.t 8, .c (.pv (.i .i64 1))], (some 19), none⟩,
        ⟨.mv, [.t 19], (some 8), none⟩])))))))
  (.seq (.ops [⟨(.ld 8 true), [.t 2], (some 20), none⟩,
    ⟨(.sto 8), [.t 4, .t 20], none, none⟩])
  .ret)))
theorem fn39 : fnOf Try.prog 39 = some (21, [.c 4 8 true], ir39) := by kernel_rfl
def ir40 : C :=
  (.seq (.ops [⟨.box, [.t 0], (some 2), none⟩,
    ⟨.box, [.t 1], (some 3), none⟩,
    ⟨(.new (.vec 8 (List.replicate 8 (.i .u32 0)))), [], (some 4), none⟩])
  (.seq (.seq (.ops [⟨(.ld 8 true), [.t 3], (some 7), none⟩,
    ⟨.mv, [.c (.pv (.i .i64 0))], (some 8), none⟩])
  (.block 0 (.loop (.seq (.ops [⟨(.bin .lss), [.t 8, .c (.pv (.i .i64 8))], (some 9), none⟩])
      (.seq (.ite (.t 9) .skip
        (.exit 0))
      (.seq (.block 1 (.seq (.ops [⟨.mv, [.t 8], (some 10), none⟩,
          ⟨(.ixA 8 1 false), [.t 7, .t 8], (some 11), none⟩,
          ⟨.mv, [.t 10], (some 5), none⟩,
          ⟨.mv, [.t 11], (some 6), none⟩])
        (.ops [⟨.mv, [.t 5], (some 12), none⟩,
          ⟨.mv, [.t 5], (some 13), none⟩,
          ⟨(.iaA 8 1), [.t 2, .t 13], (some 14), none⟩,
          ⟨(.ld 1 false), [.t 14], (some 15), none⟩,
          ⟨.mv, [.t 6], (some 16), none⟩,
          ⟨.mn, [.t 15, .t 16], (some 17), none⟩,
          ⟨(.iaA 8 1), [.t 2, .t 12], (some 18), none⟩,
          ⟨(.sto 1), [.t 18, .t 17], none, none⟩])))
      (.ops [⟨(.bin .add), [.t 8, .c (.pv (.i .i64 1))], (some 19), none⟩,
        ⟨.mv, [.t 19], (some 8), none⟩])))))))
  (.seq (.ops [⟨(.ld 8 true), [.t 2], (some 20), none⟩,
    ⟨(.sto 8), [.t 4, .t 20], none, none⟩])
  .ret)))
theorem fn40 : fnOf Try.prog 40 = some (21, [.c 4 8 true], ir40) := by kernel_rfl
def ir41 : C :=
  (.seq (.ops [⟨.box, [.t 0], (some 2), none⟩,
    ⟨.box, [.t 1], (some 3), none⟩,
    ⟨.mv, [.c (.pv (.i .i64 0))], (some 4), none⟩])
  (.seq (.ops [⟨.mv, [.c (.pv (.b false))], (some 5), none⟩,
    ⟨.mv, [.c (.pv (.b false))], (some 6), none⟩])
  (.seq (.seq (.ops [⟨.mv, [.c (.pv (.i .i64 0))], (some 7), none⟩])
  (.block 0 (.loop (.seq (.seq (.ops [⟨.mv, [.t 7], (some 8), none⟩,
        ⟨(.bin .lss), [.t 8, .c (.pv (.i .i64 8))], (some 9), none⟩])
      (.ite (.t 9) .skip
        (.exit 0)))
      (.seq (.block 1 (.seq (.any [] [(⟨.mv, [.t 5], (some 12), none⟩, 0),
          (⟨.mv, [.t 12], (some 13), none⟩, 0),
          (⟨.mv, [.t 7], (some 14), (some (13, false))⟩, 0),
          (⟨(.iaA 8 1), [.t 2, .t 14], (some 15), (some (13, false))⟩, 0),
          (⟨(.ld 1 false), [.t 15], (some 16), (some (13, false))⟩, 1),
          (⟨.mv, [.t 7], (some 17), (some (13, false))⟩, 0),
          (⟨(.iaA 8 1), [.t 3, .t 17], (some 18), (some (13, false))⟩, 0),
          (⟨(.ld 1 false), [.t 18], (some 19), (some (13, false))⟩, 1),
          (⟨(.bin .lss), [.t 16, .t 19], (some 20), (some (13, false))⟩, 0),
          (⟨.pick, [.t 13, .c (.pv (.b true)), .t 20], (some 21), none⟩, 0),
          (⟨.mv, [.t 21], (some 5), none⟩, 0)])
        (.any [] [(⟨.mv, [.t 6], (some 22), none⟩, 0),
          (⟨.mv, [.t 22], (some 23), none⟩, 0),
          (⟨.mv, [.t 7], (some 24), (some (23, false))⟩, 0),
          (⟨(.iaA 8 1), [.t 2, .t 24], (some 25), (some (23, false))⟩, 0),
          (⟨(.ld 1 false), [.t 25], (some 26), (some (23, false))⟩, 1),
          (⟨.mv, [.t 7], (some 27), (some (23, false))⟩, 0),
          (⟨(.iaA 8 1), [.t 3, .t 27], (some 28), (some (23, false))⟩, 0),
          (⟨(.ld 1 false), [.t 28], (some 29), (some (23, false))⟩, 1),
          (⟨(.bin .gtr), [.t 26, .t 29], (some 30), (some (23, false))⟩, 0),
          (⟨.pick, [.t 23, .c (.pv (.b true)), .t 30], (some 31), none⟩, 0),
          (⟨.mv, [.t 31], (some 6), none⟩, 0)])))
      (.ops [⟨.mv, [.t 7], (some 10), none⟩,
        ⟨(.bin .add), [.t 10, .c (.pv (.i .i64 1))], (some 11), none⟩,
        ⟨.mv, [.t 11], (some 7), none⟩]))))))
  (.seq (.block 2 (.seq (.ops [⟨.mv, [.t 5], (some 33), none⟩,
      ⟨.mv, [.t 33], (some 34), none⟩,
      ⟨.mv, [.t 6], (some 35), (some (34, true))⟩,
      ⟨.pick, [.t 34, .t 35, .c (.pv (.b false))], (some 36), none⟩,
      ⟨.mv, [.t 36], (some 32), none⟩])
    (.ite (.t 32) (.seq (.ops [⟨.mv, [.c (.pv (.i .i64 2))], (some 4), none⟩])
      .ret)
      (.seq (.ops [⟨.mv, [.t 5], (some 38), none⟩,
        ⟨.mv, [.t 38], (some 37), none⟩])
      (.ite (.t 37) (.seq (.ops [⟨.mv, [.c (.pv (.i .i64 (-1)))], (some 4), none⟩])
        .ret)
        (.seq (.ops [⟨.mv, [.t 6], (some 40), none⟩,
          ⟨.mv, [.t 40], (some 39), none⟩])
        (.ite (.t 39) (.seq (.ops [⟨.mv, [.c (.pv (.i .i64 1))], (some 4), none⟩])
          .ret)
          .skip)))))))
  (.seq (.ops [⟨.mv, [.c (.pv (.i .i64 0))], (some 4), none⟩])
  .ret)))))
theorem fn41 : fnOf Try.prog 41 = some (41, [.t 4], ir41) := by kernel_rfl
end Go.Proofs.Ytanjkpeaimhndaa.Fw
