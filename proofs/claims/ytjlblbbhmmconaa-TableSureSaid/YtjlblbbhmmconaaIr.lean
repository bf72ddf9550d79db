/- The functions of the program in the small language, each checked against the program. -/
import Derived.Test.YtjlblbbhmmconaaFwC
import Derived.Test.YtjlblbbhmmconaaProg
import Derived.ProofKit
set_option linter.unusedVariables false
set_option linter.unusedSimpArgs false
set_option linter.unusedSectionVars false
set_option maxRecDepth 100000
namespace Go.Proofs.Ytjlblbbhmmconaa.Fw
open Go.Proofs
theorem mixed : Try.prog.follows .mixedOrders = true := by kernel_rfl
def ir7 : C :=
  (.seq (.ops [⟨.box, [.t 0], (some 3), none⟩,
    ⟨.box, [.t 1], (some 4), none⟩,
    ⟨.box, [.t 2], (some 5), none⟩,
    ⟨.mv, [.c (.pv (.b false))], (some 6), none⟩])
  (.seq (.seq (.ops [⟨(.call 20), [], (some 12), none⟩,
    ⟨(.un .not), [.t 12], (some 13), none⟩])
  (.ite (.t 13) (.seq (.ops [⟨.mv, [.c (.pv (.b false))], (some 6), none⟩])
    .ret)
    .skip))
  (.seq (.ops [⟨(.ld 8 true), [.t 5], (some 14), none⟩,
    ⟨(.bld [8, 1, 1, 8, 8]), [.c (.vec 8 (List.replicate 8 (.i .u32 0))), .c (.pv (.sl true 0 [])), .c (.pv (.sl true 0 [])), .c (.vec 8 (List.replicate 8 (.i .i64 0))), .t 14], (some 15), none⟩,
    ⟨(.new (.agg [.vec 8 (List.replicate 8 (.i .u32 0)), .pv (.sl true 0 []), .pv (.sl true 0 []), .vec 8 (List.replicate 8 (.i .i64 0)), .vec 8 (List.replicate 8 (.b false))])), [], (some 7), none⟩,
    ⟨(.sto 26), [.t 7, .t 15], none, none⟩])
  (.seq (.ops [⟨(.ld 26 true), [.t 7], (some 16), none⟩,
    ⟨(.ld 8 true), [.t 4], (some 17), none⟩,
    ⟨(.call 28), [.t 16, .t 17], (some 18), none⟩,
    ⟨(.new (.vec 8 (List.replicate 8 (.b false)))), [], (some 8), none⟩,
    ⟨(.sto 8), [.t 8, .t 18], none, none⟩])
  (.seq (.seq (.any [22, 27, 30, 36, 39, 44, 46] [(⟨(.ld 8 true), [.t 8], (some 19), none⟩, 1),
    (⟨(.ld 26 true), [.t 7], (some 20), none⟩, 1),
    (⟨(.ld 8 true), [.t 4], (some 21), none⟩, 1),
    (⟨(.call 29), [.t 20, .t 21], (some 22), none⟩, 1),
    (⟨(.eqv true [.bool, .bool, .bool, .bool, .bool, .bool, .bool, .bool]), [.t 19, .t 22], (some 23), none⟩, 0),
    (⟨.mv, [.t 23], (some 24), none⟩, 0),
    (⟨(.ld 64 true), [.t 3], (some 25), (some (24, false))⟩, 1),
    (⟨(.ld 8 true), [.t 8], (some 26), (some (24, false))⟩, 1),
    (⟨(.call 30), [.t 25, .t 26], (some 27), (some (24, false))⟩, 1),
    (⟨(.ld 64 true), [.t 3], (some 28), (some (24, false))⟩, 1),
    (⟨(.ld 8 true), [.t 8], (some 29), (some (24, false))⟩, 1),
    (⟨(.call 31), [.t 28, .t 29], (some 30), (some (24, false))⟩, 1),
    (⟨(.eqv true [.int .u32, .int .u32, .int .u32, .int .u32, .int .u32, .int .u32, .int .u32, .int .u32]), [.t 27, .t 30], (some 31), (some (24, false))⟩, 0),
    (⟨.pick, [.t 24, .c (.pv (.b true)), .t 31], (some 32), none⟩, 0),
    (⟨.mv, [.t 32], (some 33), none⟩, 0),
    (⟨(.ld 64 true), [.t 3], (some 34), (some (33, false))⟩, 1),
    (⟨(.ld 8 true), [.t 4], (some 35), (some (33, false))⟩, 1),
    (⟨(.call 30), [.t 34, .t 35], (some 36), (some (33, false))⟩, 1),
    (⟨(.ld 64 true), [.t 3], (some 37), (some (33, false))⟩, 1),
    (⟨(.ld 8 true), [.t 4], (some 38), (some (33, false))⟩, 1),
    (⟨(.call 31), [.t 37, .t 38], (some 39), (some (33, false))⟩, 1),
    (⟨(.eqv true [.int .u32, .int .u32, .int .u32, .int .u32, .int .u32, .int .u32, .int .u32, .int .u32]), [.t 36, .t 39], (some 40), (some (33, false))⟩, 0),
    (⟨.pick, [.t 33, .c (.pv (.b true)), .t 40], (some 41), none⟩, 0),
    (⟨.mv, [.t 41], (some 42), none⟩, 0),
    (⟨(.ld 64 true), [.t 3], (some 43), (some (42, false))⟩, 1),
    (⟨(.call 32), [.t 43], (some 44), (some (42, false))⟩, 1),
    (⟨(.ld 64 true), [.t 3], (some 45), (some (42, false))⟩, 1),
    (⟨(.call 33), [.t 45], (some 46), (some (42, false))⟩, 1),
    (⟨(.eqv true [.int .u32, .int .u32, .int .u32, .int .u32, .int .u32, .int .u32, .int .u32, .int .u32]), [.t 44, .t 46], (some 47), (some (42, false))⟩, 0),
    (⟨.pick, [.t 42, .c (.pv (.b true)), .t 47], (some 48), none⟩, 0)])
  (.ite (.t 48) (.seq (.ops [⟨.mv, [.c (.pv (.b false))], (some 6), none⟩])
    .ret)
    .skip))
  (.seq (.seq (.ops [⟨.mv, [.c (.pv (.i .i64 (-1)))], (some 9), none⟩])
  (.block 0 (.loop (.seq (.seq (.ops [⟨.mv, [.t 9], (some 49), none⟩,
        ⟨(.bin .leq), [.t 49, .c (.pv (.i .i64 9))], (some 50), none⟩])
      (.ite (.t 50) .skip
        (.exit 0)))
      (.seq (.block 1 (.seq (.ops [⟨(.ld 64 true), [.t 3], (some 53), none⟩,
          ⟨.mv, [.c (.pv (.i .i64 0))], (some 54), none⟩])
        (.block 2 (.loop (.seq (.ops [⟨(.bin .lss), [.t 54, .c (.pv (.i .i64 8))], (some 55), none⟩])
            (.seq (.ite (.t 55) .skip
              (.exit 2))
            (.seq (.block 3 (.seq (.ops [⟨(.ixA 8 8 true), [.t 53, .t 54], (some 56), none⟩,
                ⟨(.new (.vec 8 (List.replicate 8 (.i .u32 0)))), [], (some 11), none⟩,
                ⟨(.sto 8), [.t 11, .t 56], none, none⟩])
              (.seq (.any [61, 66] [(⟨(.ld 64 true), [.t 3], (some 57), none⟩, 1),
                (⟨.mv, [.t 9], (some 58), none⟩, 0),
                (⟨(.ld 8 true), [.t 4], (some 59), none⟩, 1),
                (⟨(.ld 8 true), [.t 11], (some 60), none⟩, 1),
                (⟨(.call 21), [.t 57, .t 58, .t 59, .t 60], (some 61), none⟩, 1),
                (⟨(.ld 64 true), [.t 3], (some 62), none⟩, 1),
                (⟨.mv, [.t 9], (some 63), none⟩, 0),
                (⟨(.ld 8 true), [.t 4], (some 64), none⟩, 1),
                (⟨(.ld 8 true), [.t 11], (some 65), none⟩, 1),
                (⟨(.call 34), [.t 62, .t 63, .t 64, .t 65], (some 66), none⟩, 1),
                (⟨(.bin .neq), [.t 61, .t 66], (some 67), none⟩, 0)])
              (.ite (.t 67) (.seq (.ops [⟨.mv, [.c (.pv (.b false))], (some 6), none⟩])
                .ret)
                .skip))))
            (.ops [⟨(.bin .add), [.t 54, .c (.pv (.i .i64 1))], (some 68), none⟩,
              ⟨.mv, [.t 68], (some 54), none⟩]))))))))
      (.ops [⟨.mv, [.t 9], (some 51), none⟩,
        ⟨(.bin .add), [.t 51, .c (.pv (.i .i64 1))], (some 52), none⟩,
        ⟨.mv, [.t 52], (some 9), none⟩]))))))
  (.seq (.ops [⟨.mv, [.c (.pv (.b true))], (some 6), none⟩])
  .ret)))))))
theorem fn7 : fnOf Try.prog 7 = some (69, [.t 6], ir7) := by kernel_rfl
def ir20 : C :=
  (.seq (.ops [⟨.mv, [.c (.pv (.b false))], (some 0), none⟩])
  (.seq (.ops [⟨(.bldV 64 8), [.c (.vec 8 (List.replicate 8 (.i .u32 0))), .c (.vec 8 (List.replicate 8 (.i .u32 0))), .c (.vec 8 (List.replicate 8 (.i .u32 0))), .c (.vec 8 (List.replicate 8 (.i .u32 0))), .c (.vec 8 (List.replicate 8 (.i .u32 0))), .c (.vec 8 (List.replicate 8 (.i .u32 0))), .c (.vec 8 (List.replicate 8 (.i .u32 0))), .c (.vec 8 (List.replicate 8 (.i .u32 0)))], (some 2), none⟩,
    ⟨(.bldV 8 1), [.c (.pv (.i .u32 2)), .c (.pv (.i .u32 0)), .c (.pv (.i .u32 0)), .c (.pv (.i .u32 0)), .c (.pv (.i .u32 0)), .c (.pv (.i .u32 0)), .c (.pv (.i .u32 0)), .c (.pv (.i .u32 0))], (some 3), none⟩,
    ⟨(.call 43), [.t 2, .c (.pv (.i .i64 1)), .t 3], (some 4), none⟩,
    ⟨(.bldV 8 1), [.c (.pv (.i .u32 1)), .c (.pv (.i .u32 3)), .c (.pv (.i .u32 0)), .c (.pv (.i .u32 0)), .c (.pv (.i .u32 0)), .c (.pv (.i .u32 0)), .c (.pv (.i .u32 0)), .c (.pv (.i .u32 0))], (some 5), none⟩,
    ⟨(.call 43), [.t 4, .c (.pv (.i .i64 2)), .t 5], (some 6), none⟩,
    ⟨(.new (.vec 64 (List.replicate 64 (.i .u32 0)))), [], (some 1), none⟩,
    ⟨(.sto 64), [.t 1, .t 6], none, none⟩])
  (.seq (.ops [⟨(.ld 64 true), [.t 1], (some 7), none⟩,
    ⟨(.bldV 8 1), [.c (.pv (.b true)), .c (.pv (.b true)), .c (.pv (.b false)), .c (.pv (.b false)), .c (.pv (.b false)), .c (.pv (.b false)), .c (.pv (.b false)), .c (.pv (.b false))], (some 8), none⟩,
    ⟨(.call 30), [.t 7, .t 8], (some 9), none⟩,
    ⟨(.bldV 8 1), [.c (.pv (.i .u32 1)), .c (.pv (.i .u32 0)), .c (.pv (.i .u32 0)), .c (.pv (.i .u32 0)), .c (.pv (.i .u32 0)), .c (.pv (.i .u32 0)), .c (.pv (.i .u32 0)), .c (.pv (.i .u32 0))], (some 10), none⟩,
    ⟨(.eqv false [.int .u32, .int .u32, .int .u32, .int .u32, .int .u32, .int .u32, .int .u32, .int .u32]), [.t 9, .t 10], (some 11), none⟩,
    ⟨.mv, [.t 11], (some 12), none⟩,
    ⟨(.ld 64 true), [.t 1], (some 13), (some (12, true))⟩,
    ⟨(.call 32), [.t 13], (some 14), (some (12, true))⟩,
    ⟨(.bldV 8 1), [.c (.pv (.i .u32 2)), .c (.pv (.i .u32 3)), .c (.pv (.i .u32 0)), .c (.pv (.i .u32 0)), .c (.pv (.i .u32 0)), .c (.pv (.i .u32 0)), .c (.pv (.i .u32 0)), .c (.pv (.i .u32 0))], (some 15), (some (12, true))⟩,
    ⟨(.eqv false [.int .u32, .int .u32, .int .u32, .int .u32, .int .u32, .int .u32, .int .u32, .int .u32]), [.t 14, .t 15], (some 16), (some (12, true))⟩,
    ⟨.pick, [.t 12, .t 16, .c (.pv (.b false))], (some 17), none⟩,
    ⟨.mv, [.t 17], (some 18), none⟩,
    ⟨(.ld 64 true), [.t 1], (some 19), (some (18, true))⟩,
    ⟨(.call 44), [.t 19, .c (.pv (.i .i64 2))], (some 20), (some (18, true))⟩,
    ⟨(.bldV 8 1), [.c (.pv (.i .u32 1)), .c (.pv (.i .u32 3)), .c (.pv (.i .u32 0)), .c (.pv (.i .u32 0)), .c (.pv (.i .u32 0)), .c (.pv (.i .u32 0)), .c (.pv (.i .u32 0)), .c (.pv (.i .u32 0))], (some 21), (some (18, true))⟩,
    ⟨(.eqv false [.int .u32, .int .u32, .int .u32, .int .u32, .int .u32, .int .u32, .int .u32, .int .u32]), [.t 20, .t 21], (some 22), (some (18, true))⟩,
    ⟨.pick, [.t 18, .t 22, .c (.pv (.b false))], (some 23), none⟩,
    ⟨.mv, [.t 23], (some 0), none⟩])
  .ret)))
theorem fn20 : fnOf Try.prog 20 = some (24, [.t 0], ir20) := by kernel_rfl
def ir21 : C :=
  (.seq (.ops [⟨.box, [.t 0], (some 4), none⟩,
    ⟨.box, [.t 2], (some 6), none⟩,
    ⟨.box, [.t 3], (some 7), none⟩,
    ⟨.mv, [.c (.pv (.i .i64 0))], (some 8), none⟩])
  (.seq (.seq (.ops [⟨(.ld 64 true), [.t 4], (some 11), none⟩,
    ⟨.mv, [.c (.pv (.i .i64 0))], (some 12), none⟩])
  (.block 0 (.loop (.seq (.ops [⟨(.bin .lss), [.t 12, .c (.pv (.i .i64 8))], (some 13), none⟩])
      (.seq (.ite (.t 13) .skip
        (.exit 0))
      (.seq (.block 1 (.seq (.ops [⟨.mv, [.t 12], (some 14), none⟩,
          ⟨(.ixA 8 8 true), [.t 11, .t 12], (some 15), none⟩,
          ⟨(.new (.vec 8 (List.replicate 8 (.i .u32 0)))), [], (some 10), none⟩,
          ⟨.mv, [.t 14], (some 9), none⟩,
          ⟨(.sto 8), [.t 10, .t 15], none, none⟩])
        (.seq (.ops [⟨.mv, [.t 9], (some 16), none⟩,
          ⟨(.iaA 8 1), [.t 6, .t 16], (some 17), none⟩,
          ⟨(.ld 1 false), [.t 17], (some 18), none⟩,
          ⟨.mv, [.t 18], (some 19), none⟩,
          ⟨.mv, [.t 9], (some 20), (some (19, true))⟩,
          ⟨(.bin .add), [.t 20, .c (.pv (.i .i64 1))], (some 21), (some (19, true))⟩,
          ⟨.mv, [.t 1], (some 22), (some (19, true))⟩,
          ⟨(.bin .neq), [.t 21, .t 22], (some 23), (some (19, true))⟩,
          ⟨.pick, [.t 19, .t 23, .c (.pv (.b false))], (some 24), none⟩,
          ⟨.mv, [.t 24], (some 25), none⟩,
          ⟨(.ld 8 true), [.t 7], (some 26), (some (25, true))⟩,
          ⟨(.ld 8 true), [.t 10], (some 27), (some (25, true))⟩,
          ⟨(.call 45), [.t 26, .t 27], (some 28), (some (25, true))⟩,
          ⟨.pick, [.t 25, .t 28, .c (.pv (.b false))], (some 29), none⟩])
        (.ite (.t 29) (.seq (.ops [⟨.mv, [.t 9], (some 30), none⟩,
            ⟨(.bin .add), [.t 30, .c (.pv (.i .i64 1))], (some 31), none⟩,
            ⟨.mv, [.t 31], (some 8), none⟩])
          .ret)
          .skip))))
      (.ops [⟨(.bin .add), [.t 12, .c (.pv (.i .i64 1))], (some 32), none⟩,
        ⟨.mv, [.t 32], (some 12), none⟩])))))))
  (.seq (.ops [⟨.mv, [.c (.pv (.i .i64 0))], (some 8), none⟩])
  .ret)))
theorem fn21 : fnOf Try.prog 21 = some (33, [.t 8], ir21) := by kernel_rfl
def ir22 : C :=
  (.seq (.ops [⟨.box, [.t 0], (some 2), none⟩,
    ⟨.box, [.t 1], (some 3), none⟩,
    ⟨.mv, [.c (.pv (.b false))], (some 4), none⟩])
  (.seq (.ops [⟨(.ld 8 true), [.t 2], (some 5), none⟩,
    ⟨(.ld 8 true), [.t 3], (some 6), none⟩,
    ⟨(.call 26), [.t 5, .t 6], (some 7), none⟩,
    ⟨(.bin .leq), [.t 7, .c (.pv (.i .i64 0))], (some 8), none⟩,
    ⟨.mv, [.t 8], (some 4), none⟩])
  .ret))
theorem fn22 : fnOf Try.prog 22 = some (9, [.t 4], ir22) := by kernel_rfl
def ir26 : C :=
  (.seq (.ops [⟨.box, [.t 0], (some 2), none⟩,
    ⟨.box, [.t 1], (some 3), none⟩,
    ⟨.mv, [.c (.pv (.i .i64 0))], (some 4), none⟩])
  (.seq (.ops [⟨.mv, [.c (.pv (.b false))], (some 5), none⟩,
    ⟨.mv, [.c (.pv (.b false))], (some 6), none⟩])
  (.seq (.seq (.ops [⟨.mv, [.c (.pv (.i .i64 0))], (some 7), none⟩])
  (.block 0 (.loop (.seq (.seq (.ops [⟨.mv, [.t 7], (some 8), none⟩,
        ⟨(.bin .lss), [.t 8, .c (.pv (.i .i64 8))], (some 9), none⟩])
      (.ite (.t 9) .skip
        (.exit 0)))
      (.seq (.block 1 (.seq (.any [] [(⟨.mv, [.t 5], (some 12), none⟩, 0),
          (⟨.mv, [.t 12], (some 13), none⟩, 0),
          (⟨.mv, [.t 7], (some 14), (some (13, false))⟩, 0),
          (⟨(.iaA 8 1), [.t 2, .t 14], (some 15), (some (13, false))⟩, 0),
          (⟨(.ld 1 false), [.t 15], (some 16), (some (13, false))⟩, 1),
          (⟨.mv, [.t 7], (some 17), (some (13, false))⟩, 0),
          (⟨(.iaA 8 1), [.t 3, .t 17], (some 18), (some (13, false))⟩, 0),
          (⟨(.ld 1 false), [.t 18], (some 19), (some (13, false))⟩, 1),
          (⟨(.bin .lss), [.t 16, .t 19], (some 20), (some (13, false))⟩, 0),
          (⟨.pick, [.t 13, .c (.pv (.b true)), .t 20], (some 21), none⟩, 0),
          (⟨.mv, [.t 21], (some 5), none⟩, 0)])
        (.any [] [(⟨.mv, [.t 6], (some 22), none⟩, 0),
          (⟨.mv, [.t 22], (some 23), none⟩, 0),
          (⟨.mv, [.t 7], (some 24), (some (23, false))⟩, 0),
          (⟨(.iaA 8 1), [.t 2, .t 24], (some 25), (some (23, false))⟩, 0),
          (⟨(.ld 1 false), [.t 25], (some 26), (some (23, false))⟩, 1),
          (⟨.mv, [.t 7], (some 27), (some (23, false))⟩, 0),
          (⟨(.iaA 8 1), [.t 3, .t 27], (some 28), (some (23, false))⟩, 0),
          (⟨(.ld 1 false), [.t 28], (some 29), (some (23, false))⟩, 1),
          (⟨(.bin .gtr), [.t 26, .t 29], (some 30), (some (23, false))⟩, 0),
          (⟨.pick, [.t 23, .c (.pv (.b true)), .t 30], (some 31), none⟩, 0),
          (⟨.mv, [.t 31], (some 6), none⟩, 0)])))
      (.ops [⟨.mv, [.t 7], (some 10), none⟩,
        ⟨(.bin .add), [.t 10, .c (.pv (.i .i64 1))], (some 11), none⟩,
        ⟨.mv, [.t 11], (some 7), none⟩]))))))
  (.seq (.block 2 (.seq (.ops [⟨.mv, [.t 5], (some 33), none⟩,
      ⟨.mv, [.t 33], (some 34), none⟩,
      ⟨.mv, [.t 6], (some 35), (some (34, true))⟩,
      ⟨.pick, [.t 34, .t 35, .c (.pv (.b false))], (some 36), none⟩,
      ⟨.mv, [.t 36], (some 32), none⟩])
    (.ite (.t 32) (.seq (.ops [⟨.mv, [.c (.pv (.i .i64 2))], (some 4), none⟩])
      .ret)
      (.seq (.ops [⟨.mv, [.t 5], (some 38), none⟩,
        ⟨.mv, [.t 38], (some 37), none⟩])
      (.ite (.t 37) (.seq (.ops [⟨.mv, [.c (.pv (.i .i64 (-1)))], (some 4), none⟩])
        .ret)
        (.seq (.ops [⟨.mv, [.t 6], (some 40), none⟩,
          ⟨.mv, [.t 40], (some 39), none⟩])
        (.ite (.t 39) (.seq (.ops [⟨.mv, [.c (.pv (.i .i64 1))], (some 4), none⟩])
          .ret)
          .skip)))))))
  (.seq (.ops [⟨.mv, [.c (.pv (.i .i64 0))], (some 4), none⟩])
  .ret)))))
theorem fn26 : fnOf Try.prog 26 = some (41, [.t 4], ir26) := by kernel_rfl
def ir28 : C :=
  (.seq (.ops [⟨.box, [.t 0], (some 2), none⟩,
    ⟨.box, [.t 1], (some 3), none⟩,
    ⟨(.new (.vec 8 (List.replicate 8 (.b false)))), [], (some 4), none⟩])
  (.seq (.seq (.ops [⟨(.fa 18), [.t 2], (some 7), none⟩,
    ⟨(.ld 8 true), [.t 7], (some 8), none⟩,
    ⟨.mv, [.c (.pv (.i .i64 0))], (some 9), none⟩])
  (.block 0 (.loop (.seq (.ops [⟨(.bin .lss), [.t 9, .c (.pv (.i .i64 8))], (some 10), none⟩])
      (.seq (.ite (.t 10) .skip
        (.exit 0))
      (.seq (.block 1 (.seq (.ops [⟨.mv, [.t 9], (some 11), none⟩,
          ⟨(.ixA 8 1 false), [.t 8, .t 9], (some 12), none⟩,
          ⟨.mv, [.t 11], (some 5), none⟩,
          ⟨.mv, [.t 12], (some 6), none⟩])
        (.ops [⟨.mv, [.t 5], (some 13), none⟩,
          ⟨.mv, [.t 5], (some 14), none⟩,
          ⟨(.iaA 8 1), [.t 3, .t 14], (some 15), none⟩,
          ⟨(.ld 1 false), [.t 15], (some 16), none⟩,
          ⟨.mv, [.t 16], (some 17), none⟩,
          ⟨.mv, [.t 6], (some 18), (some (17, true))⟩,
          ⟨(.un .not), [.t 18], (some 19), (some (17, true))⟩,
          ⟨.pick, [.t 17, .t 19, .c (.pv (.b false))], (some 20), none⟩,
          ⟨(.iaA 8 1), [.t 3, .t 13], (some 21), none⟩,
          ⟨(.sto 1), [.t 21, .t 20], none, none⟩])))
      (.ops [⟨(.bin .add), [.t 9, .c (.pv (.i .i64 1))], (some 22), none⟩,
        ⟨.mv, [.t 22], (some 9), none⟩])))))))
  (.seq (.ops [⟨(.ld 8 true), [.t 3], (some 23), none⟩,
    ⟨(.sto 8), [.t 4, .t 23], none, none⟩])
  .ret)))
theorem fn28 : fnOf Try.prog 28 = some (24, [.c 4 8 true], ir28) := by kernel_rfl
def ir29 : C :=
  (.seq (.ops [⟨.box, [.t 0], (some 2), none⟩,
    ⟨.box, [.t 1], (some 3), none⟩,
    ⟨(.new (.vec 8 (List.replicate 8 (.b false)))), [], (some 4), none⟩])
  (.seq (.ops [⟨(.bldV 8 1), [.c (.pv (.b false)), .c (.pv (.b false)), .c (.pv (.b false)), .c (.pv (.b false)), .c (.pv (.b false)), .c (.pv (.b false)), .c (.pv (.b false)), .c (.pv (.b false))], (some 7), none⟩,
    ⟨(.new (.vec 8 (List.replicate 8 (.b false)))), [], (some 5), none⟩,
    ⟨(.sto 8), [.t 5, .t 7], none, none⟩])
  (.seq (.seq (.ops [⟨.mv, [.c (.pv (.i .i64 0))], (some 6), none⟩])
  (.block 0 (.loop (.seq (.seq (.ops [⟨.mv, [.t 6], (some 8), none⟩,
        ⟨(.bin .lss), [.t 8, .c (.pv (.i .i64 8))], (some 9), none⟩])
      (.ite (.t 9) .skip
        (.exit 0)))
      (.seq (.block 1 (.ops [⟨.mv, [.t 6], (some 12), none⟩,
          ⟨.mv, [.t 6], (some 13), none⟩,
          ⟨(.iaA 8 1), [.t 3, .t 13], (some 14), none⟩,
          ⟨(.ld 1 false), [.t 14], (some 15), none⟩,
          ⟨.mv, [.t 15], (some 16), none⟩,
          ⟨.mv, [.t 6], (some 17), (some (16, true))⟩,
          ⟨(.fa 18), [.t 2], (some 18), (some (16, true))⟩,
          ⟨(.iaA 8 1), [.t 18, .t 17], (some 19), (some (16, true))⟩,
          ⟨(.ld 1 false), [.t 19], (some 20), (some (16, true))⟩,
          ⟨(.un .not), [.t 20], (some 21), (some (16, true))⟩,
          ⟨.pick, [.t 16, .t 21, .c (.pv (.b false))], (some 22), none⟩,
          ⟨(.iaA 8 1), [.t 5, .t 12], (some 23), none⟩,
          ⟨(.sto 1), [.t 23, .t 22], none, none⟩]))
      (.ops [⟨.mv, [.t 6], (some 10), none⟩,
        ⟨(.bin .add), [.t 10, .c (.pv (.i .i64 1))], (some 11), none⟩,
        ⟨.mv, [.t 11], (some 6), none⟩]))))))
  (.seq (.ops [⟨(.ld 8 true), [.t 5], (some 24), none⟩,
    ⟨(.sto 8), [.t 4, .t 24], none, none⟩])
  .ret))))
theorem fn29 : fnOf Try.prog 29 = some (25, [.c 4 8 true], ir29) := by kernel_rfl
def ir30 : C :=
  (.seq (.ops [⟨.box, [.t 0], (some 2), none⟩,
    ⟨.box, [.t 1], (some 3), none⟩,
    ⟨(.new (.vec 8 (List.replicate 8 (.i .u32 0)))), [], (some 4), none⟩])
  (.seq (.ops [⟨(.new (.vec 8 (List.replicate 8 (.i .u32 0)))), [], (some 5), none⟩])
  (.seq (.ops [⟨.mv, [.c (.pv (.b false))], (some 6), none⟩])
  (.seq (.seq (.ops [⟨(.ld 64 true), [.t 2], (some 9), none⟩,
    ⟨.mv, [.c (.pv (.i .i64 0))], (some 10), none⟩])
  (.block 0 (.loop (.seq (.ops [⟨(.bin .lss), [.t 10, .c (.pv (.i .i64 8))], (some 11), none⟩])
      (.seq (.ite (.t 11) .skip
        (.exit 0))
      (.seq (.block 1 (.seq (.ops [⟨.mv, [.t 10], (some 12), none⟩,
          ⟨(.ixA 8 8 true), [.t 9, .t 10], (some 13), none⟩,
          ⟨(.new (.vec 8 (List.replicate 8 (.i .u32 0)))), [], (some 8), none⟩,
          ⟨.mv, [.t 12], (some 7), none⟩,
          ⟨(.sto 8), [.t 8, .t 13], none, none⟩])
        (.block 2 (.seq (.ops [⟨.mv, [.t 7], (some 16), none⟩,
            ⟨(.iaA 8 1), [.t 3, .t 16], (some 17), none⟩,
            ⟨(.ld 1 false), [.t 17], (some 18), none⟩,
            ⟨(.un .not), [.t 18], (some 19), none⟩,
            ⟨.mv, [.t 19], (some 15), none⟩])
          (.ite (.t 15) .skip
            (.seq (.ops [⟨.mv, [.t 6], (some 21), none⟩,
              ⟨.mv, [.t 21], (some 20), none⟩])
            (.ite (.t 20) (.ops [⟨(.ld 8 true), [.t 5], (some 22), none⟩,
                ⟨(.ld 8 true), [.t 8], (some 23), none⟩,
                ⟨(.call 48), [.t 22, .t 23], (some 24), none⟩,
                ⟨(.sto 8), [.t 5, .t 24], none, none⟩])
              (.ops [⟨(.ld 8 true), [.t 8], (some 14), none⟩,
                ⟨(.sto 8), [.t 5, .t 14], none, none⟩,
                ⟨.mv, [.c (.pv (.b true))], (some 6), none⟩]))))))))
      (.ops [⟨(.bin .add), [.t 10, .c (.pv (.i .i64 1))], (some 25), none⟩,
        ⟨.mv, [.t 25], (some 10), none⟩])))))))
  (.seq (.ops [⟨(.ld 8 true), [.t 5], (some 26), none⟩,
    ⟨(.sto 8), [.t 4, .t 26], none, none⟩])
  .ret)))))
theorem fn30 : fnOf Try.prog 30 = some (27, [.c 4 8 true], ir30) := by kernel_rfl
def ir31 : C :=
  (.seq (.ops [⟨.box, [.t 0], (some 2), none⟩,
    ⟨.box, [.t 1], (some 3), none⟩,
    ⟨(.new (.vec 8 (List.replicate 8 (.i .u32 0)))), [], (some 4), none⟩])
  (.seq (.ops [⟨(.bldV 8 1), [.c (.pv (.i .u32 0)), .c (.pv (.i .u32 0)), .c (.pv (.i .u32 0)), .c (.pv (.i .u32 0)), .c (.pv (.i .u32 0)), .c (.pv (.i .u32 0)), .c (.pv (.i .u32 0)), .c (.pv (.i .u32 0))], (some 9), none⟩,
    ⟨(.new (.vec 8 (List.replicate 8 (.i .u32 0)))), [], (some 5), none⟩,
    ⟨(.sto 8), [.t 5, .t 9], none, none⟩])
  (.seq (.seq (.ops [⟨.mv, [.c (.pv (.i .i64 0))], (some 6), none⟩])
  (.block 0 (.loop (.seq (.seq (.ops [⟨.mv, [.t 6], (some 10), none⟩,
        ⟨(.bin .lss), [.t 10, .c (.pv (.i .i64 8))], (some 11), none⟩])
      (.ite (.t 11) .skip
        (.exit 0)))
      (.seq (.block 1 (.seq (.ops [⟨.mv, [.c (.pv (.b false))], (some 7), none⟩])
        (.seq (.ops [⟨.mv, [.c (.pv (.i .i64 0))], (some 8), none⟩])
        (.block 2 (.loop (.seq (.seq (.ops [⟨.mv, [.t 8], (some 14), none⟩,
              ⟨(.bin .lss), [.t 14, .c (.pv (.i .i64 8))], (some 15), none⟩])
            (.ite (.t 15) .skip
              (.exit 2)))
            (.seq (.block 3 (.seq (.any [] [(⟨.mv, [.t 8], (some 18), none⟩, 0),
                (⟨(.iaA 8 1), [.t 3, .t 18], (some 19), none⟩, 0),
                (⟨(.ld 1 false), [.t 19], (some 20), none⟩, 1),
                (⟨.mv, [.t 20], (some 21), none⟩, 0),
                (⟨.mv, [.t 7], (some 22), (some (21, true))⟩, 0),
                (⟨(.un .not), [.t 22], (some 23), (some (21, true))⟩, 0),
                (⟨.mv, [.t 23], (some 24), (some (21, true))⟩, 0),
                (⟨.mv, [.t 8], (some 25), (some (24, false))⟩, 0),
                (⟨.mv, [.t 6], (some 26), (some (24, false))⟩, 0),
                (⟨(.iaA 8 8), [.t 2, .t 25], (some 27), (some (24, false))⟩, 0),
                (⟨(.iaA 8 1), [.t 27, .t 26], (some 28), (some (24, false))⟩, 0),
                (⟨(.ld 1 false), [.t 28], (some 29), (some (24, false))⟩, 1),
                (⟨.mv, [.t 6], (some 30), (some (24, false))⟩, 0),
                (⟨(.iaA 8 1), [.t 5, .t 30], (some 31), (some (24, false))⟩, 0),
                (⟨(.ld 1 false), [.t 31], (some 32), (some (24, false))⟩, 1),
                (⟨(.bin .lss), [.t 29, .t 32], (some 33), (some (24, false))⟩, 0),
                (⟨.pick, [.t 24, .c (.pv (.b true)), .t 33], (some 34), (some (21, true))⟩, 0),
                (⟨.pick, [.t 21, .t 34, .c (.pv (.b false))], (some 35), none⟩, 0)])
              (.ite (.t 35) (.ops [⟨.mv, [.t 6], (some 36), none⟩,
                  ⟨.mv, [.t 8], (some 37), none⟩,
                  ⟨.mv, [.t 6], (some 38), none⟩,
                  ⟨(.iaA 8 8), [.t 2, .t 37], (some 39), none⟩,
                  ⟨(.iaA 8 1), [.t 39, .t 38], (some 40), none⟩,
                  ⟨(.ld 1 false), [.t 40], (some 41), none⟩,
                  ⟨(.iaA 8 1), [.t 5, .t 36], (some 42), none⟩,
                  ⟨(.sto 1), [.t 42, .t 41], none, none⟩,
                  ⟨.mv, [.c (.pv (.b true))], (some 7), none⟩])
                .skip)))
            (.ops [⟨.mv, [.t 8], (some 16), none⟩,
              ⟨(.bin .add), [.t 16, .c (.pv (.i .i64 1))], (some 17), none⟩,
              ⟨.mv, [.t 17], (some 8), none⟩]))))))))
      (.ops [⟨.mv, [.t 6], (some 12), none⟩,
        ⟨(.bin .add), [.t 12, .c (.pv (.i .i64 1))], (some 13), none⟩,
        ⟨.mv, [.t 13], (some 6), none⟩]))))))
  (.seq (.ops [⟨(.ld 8 true), [.t 5], (some 43), none⟩,
    ⟨(.sto 8), [.t 4, .t 43], none, none⟩])
  .ret))))
theorem fn31 : fnOf Try.prog 31 = some (44, [.c 4 8 true], ir31) := by kernel_rfl
def ir32 : C :=
  (.seq (.ops [⟨.box, [.t 0], (some 1), none⟩,
    ⟨(.new (.vec 8 (List.replicate 8 (.i .u32 0)))), [], (some 2), none⟩])
  (.seq (.ops [⟨(.new (.vec 8 (List.replicate 8 (.i .u32 0)))), [], (some 3), none⟩])
  (.seq (.seq (.ops [⟨(.ld 64 true), [.t 1], (some 6), none⟩,
    ⟨.mv, [.c (.pv (.i .i64 0))], (some 7), none⟩])
  (.block 0 (.loop (.seq (.ops [⟨(.bin .lss), [.t 7, .c (.pv (.i .i64 8))], (some 8), none⟩])
      (.seq (.ite (.t 8) .skip
        (.exit 0))
      (.seq (.block 1 (.seq (.ops [⟨(.ixA 8 8 true), [.t 6, .t 7], (some 9), none⟩,
          ⟨(.new (.vec 8 (List.replicate 8 (.i .u32 0)))), [], (some 5), none⟩,
          ⟨(.sto 8), [.t 5, .t 9], none, none⟩])
        (.ops [⟨(.ld 8 true), [.t 3], (some 10), none⟩,
          ⟨(.ld 8 true), [.t 5], (some 11), none⟩,
          ⟨(.call 49), [.t 10, .t 11], (some 12), none⟩,
          ⟨(.sto 8), [.t 3, .t 12], none, none⟩])))
      (.ops [⟨(.bin .add), [.t 7, .c (.pv (.i .i64 1))], (some 13), none⟩,
        ⟨.mv, [.t 13], (some 7), none⟩])))))))
  (.seq (.ops [⟨(.ld 8 true), [.t 3], (some 14), none⟩,
    ⟨(.sto 8), [.t 2, .t 14], none, none⟩])
  .ret))))
theorem fn32 : fnOf Try.prog 32 = some (15, [.c 2 8 true], ir32) := by kernel_rfl
def ir33 : C :=
  (.seq (.ops [⟨.box, [.t 0], (some 1), none⟩,
    ⟨(.new (.vec 8 (List.replicate 8 (.i .u32 0)))), [], (some 2), none⟩])
  (.seq (.ops [⟨(.bldV 8 1), [.c (.pv (.i .u32 0)), .c (.pv (.i .u32 0)), .c (.pv (.i .u32 0)), .c (.pv (.i .u32 0)), .c (.pv (.i .u32 0)), .c (.pv (.i .u32 0)), .c (.pv (.i .u32 0)), .c (.pv (.i .u32 0))], (some 5), none⟩,
    ⟨(.new (.vec 8 (List.replicate 8 (.i .u32 0)))), [], (some 3), none⟩,
    ⟨(.sto 8), [.t 3, .t 5], none, none⟩])
  (.seq (.seq (.ops [⟨.mv, [.c (.pv (.i .i64 0))], (some 4), none⟩])
  (.block 0 (.loop (.seq (.seq (.ops [⟨.mv, [.t 4], (some 6), none⟩,
        ⟨(.bin .lss), [.t 6, .c (.pv (.i .i64 8))], (some 7), none⟩])
      (.ite (.t 7) .skip
        (.exit 0)))
      (.seq (.block 1 (.any [14] [(⟨(.ld 8 true), [.t 3], (some 10), none⟩, 1),
          (⟨.mv, [.t 4], (some 11), none⟩, 0),
          (⟨(.iaA 8 8), [.t 1, .t 11], (some 12), none⟩, 0),
          (⟨(.ld 8 true), [.t 12], (some 13), none⟩, 1),
          (⟨(.call 50), [.t 10, .t 13], (some 14), none⟩, 1),
          (⟨(.sto 8), [.t 3, .t 14], none, none⟩, 2)]))
      (.ops [⟨.mv, [.t 4], (some 8), none⟩,
        ⟨(.bin .add), [.t 8, .c (.pv (.i .i64 1))], (some 9), none⟩,
        ⟨.mv, [.t 9], (some 4), none⟩]))))))
  (.seq (.ops [⟨(.ld 8 true), [.t 3], (some 15), none⟩,
    ⟨(.sto 8), [.t 2, .t 15], none, none⟩])
  .ret))))
theorem fn33 : fnOf Try.prog 33 = some (16, [.c 2 8 true], ir33) := by kernel_rfl
def ir34 : C :=
  (.seq (.ops [⟨.box, [.t 0], (some 4), none⟩,
    ⟨.box, [.t 2], (some 6), none⟩,
    ⟨.box, [.t 3], (some 7), none⟩,
    ⟨.mv, [.c (.pv (.i .i64 0))], (some 8), none⟩])
  (.seq (.ops [⟨.mv, [.c (.pv (.i .i64 0))], (some 9), none⟩])
  (.seq (.seq (.ops [⟨.mv, [.c (.pv (.i .i64 8))], (some 10), none⟩])
  (.block 0 (.loop (.seq (.seq (.ops [⟨.mv, [.t 10], (some 11), none⟩,
        ⟨(.bin .geq), [.t 11, .c (.pv (.i .i64 1))], (some 12), none⟩])
      (.ite (.t 12) .skip
        (.exit 0)))
      (.seq (.block 1 (.seq (.any [30] [(⟨.mv, [.t 10], (some 15), none⟩, 0),
          (⟨(.bin .sub), [.t 15, .c (.pv (.i .i64 1))], (some 16), none⟩, 0),
          (⟨(.iaA 8 1), [.t 6, .t 16], (some 17), none⟩, 0),
          (⟨(.ld 1 false), [.t 17], (some 18), none⟩, 1),
          (⟨.mv, [.t 18], (some 19), none⟩, 0),
          (⟨.mv, [.t 10], (some 20), (some (19, true))⟩, 0),
          (⟨.mv, [.t 1], (some 21), (some (19, true))⟩, 0),
          (⟨(.bin .neq), [.t 20, .t 21], (some 22), (some (19, true))⟩, 0),
          (⟨.pick, [.t 19, .t 22, .c (.pv (.b false))], (some 23), none⟩, 0),
          (⟨.mv, [.t 23], (some 24), none⟩, 0),
          (⟨(.ld 8 true), [.t 7], (some 25), (some (24, true))⟩, 1),
          (⟨.mv, [.t 10], (some 26), (some (24, true))⟩, 0),
          (⟨(.bin .sub), [.t 26, .c (.pv (.i .i64 1))], (some 27), (some (24, true))⟩, 0),
          (⟨(.iaA 8 8), [.t 4, .t 27], (some 28), (some (24, true))⟩, 0),
          (⟨(.ld 8 true), [.t 28], (some 29), (some (24, true))⟩, 1),
          (⟨(.call 22), [.t 25, .t 29], (some 30), (some (24, true))⟩, 1),
          (⟨.pick, [.t 24, .t 30, .c (.pv (.b false))], (some 31), none⟩, 0)])
        (.ite (.t 31) (.ops [⟨.mv, [.t 10], (some 32), none⟩,
            ⟨.mv, [.t 32], (some 9), none⟩])
          .skip)))
      (.ops [⟨.mv, [.t 10], (some 13), none⟩,
        ⟨(.bin .sub), [.t 13, .c (.pv (.i .i64 1))], (some 14), none⟩,
        ⟨.mv, [.t 14], (some 10), none⟩]))))))
  (.seq (.ops [⟨.mv, [.t 9], (some 33), none⟩,
    ⟨.mv, [.t 33], (some 8), none⟩])
  .ret))))
theorem fn34 : fnOf Try.prog 34 = some (34, [.t 8], ir34) := by kernel_rfl
def ir43 : C :=
  (.seq (.ops [⟨.box, [.t 0], (some 3), none⟩,
    ⟨.box, [.t 2], (some 5), none⟩,
    ⟨(.new (.vec 64 (List.replicate 64 (.i .u32 0)))), [], (some 6), none⟩])
  (.seq (.seq (.ops [⟨.mv, [.t 1], (some 7), none⟩,
    ⟨(.bin .geq), [.t 7, .c (.pv (.i .i64 1))], (some 8), none⟩,
    ⟨.mv, [.t 8], (some 9), none⟩,
    ⟨.mv, [.t 1], (some 10), (some (9, true))⟩,
    ⟨(.bin .leq), [.t 10, .c (.pv (.i .i64 8))], (some 11), (some (9, true))⟩,
    ⟨.pick, [.t 9, .t 11, .c (.pv (.b false))], (some 12), none⟩])
  (.ite (.t 12) (.any [20] [(⟨.mv, [.t 1], (some 13), none⟩, 0),
      (⟨(.bin .sub), [.t 13, .c (.pv (.i .i64 1))], (some 14), none⟩, 0),
      (⟨.mv, [.t 1], (some 15), none⟩, 0),
      (⟨(.bin .sub), [.t 15, .c (.pv (.i .i64 1))], (some 16), none⟩, 0),
      (⟨(.iaA 8 8), [.t 3, .t 16], (some 17), none⟩, 0),
      (⟨(.ld 8 true), [.t 17], (some 18), none⟩, 1),
      (⟨(.ld 8 true), [.t 5], (some 19), none⟩, 1),
      (⟨(.call 49), [.t 18, .t 19], (some 20), none⟩, 1),
      (⟨(.iaA 8 8), [.t 3, .t 14], (some 21), none⟩, 0),
      (⟨(.sto 8), [.t 21, .t 20], none, none⟩, 2)])
    .skip))
  (.seq (.ops [⟨(.ld 64 true), [.t 3], (some 22), none⟩,
    ⟨(.sto 64), [.t 6, .t 22], none, none⟩])
  .ret)))
theorem fn43 : fnOf Try.prog 43 = some (23, [.c 6 64 true], ir43) := by kernel_rfl
def ir44 : C :=
  (.seq (.ops [⟨.box, [.t 0], (some 2), none⟩,
    ⟨(.new (.vec 8 (List.replicate 8 (.i .u32 0)))), [], (some 4), none⟩])
  (.seq (.seq (.ops [⟨.mv, [.t 1], (some 5), none⟩,
    ⟨(.bin .lss), [.t 5, .c (.pv (.i .i64 1))], (some 6), none⟩,
    ⟨.mv, [.t 6], (some 7), none⟩,
    ⟨.mv, [.t 1], (some 8), (some (7, false))⟩,
    ⟨(.bin .gtr), [.t 8, .c (.pv (.i .i64 8))], (some 9), (some (7, false))⟩,
    ⟨.pick, [.t 7, .c (.pv (.b true)), .t 9], (some 10), none⟩])
  (.ite (.t 10) (.seq (.ops [⟨(.bldV 8 1), [.c (.pv (.i .u32 0)), .c (.pv (.i .u32 0)), .c (.pv (.i .u32 0)), .c (.pv (.i .u32 0)), .c (.pv (.i .u32 0)), .c (.pv (.i .u32 0)), .c (.pv (.i .u32 0)), .c (.pv (.i .u32 0))], (some 11), none⟩,
      ⟨(.sto 8), [.t 4, .t 11], none, none⟩])
    .ret)
    .skip))
  (.seq (.ops [⟨.mv, [.t 1], (some 12), none⟩,
    ⟨(.bin .sub), [.t 12, .c (.pv (.i .i64 1))], (some 13), none⟩,
    ⟨(.iaA 8 8), [.t 2, .t 13], (some 14), none⟩,
    ⟨(.ld 8 true), [.t 14], (some 15), none⟩,
    ⟨(.sto 8), [.t 4, .t 15], none, none⟩])
  .ret)))
theorem fn44 : fnOf Try.prog 44 = some (16, [.c 4 8 true], ir44) := by kernel_rfl
def ir45 : C :=
  (.seq (.ops [⟨.box, [.t 0], (some 2), none⟩,
    ⟨.box, [.t 1], (some 3), none⟩,
    ⟨.mv, [.c (.pv (.b false))], (some 4), none⟩])
  (.seq (.seq (.ops [⟨(.ld 8 true), [.t 2], (some 7), none⟩,
    ⟨.mv, [.c (.pv (.i .i64 0))], (some 8), none⟩])
  (.block 0 (.loop (.seq (.ops [⟨(.bin .lss), [.t 8, .c (.pv (.i .i64 8))], (some 9), none⟩])
      (.seq (.ite (.t 9) .skip
        (.exit 0))
      (.seq (.block 1 (.seq (.ops [⟨.mv, [.t 8], (some 10), none⟩,
          ⟨(.ixA 8 1 false), [.t 7, .t 8], (some 11), none⟩,
          ⟨.mv, [.t 10], (some 5), none⟩,
          ⟨.mv, [.t 11], (some 6), none⟩])
        (.seq (.ops [⟨.mv, [.t 6], (some 12), none⟩,
          ⟨.mv, [.t 5], (some 13), none⟩,
          ⟨(.iaA 8 1), [.t 3, .t 13], (some 14), none⟩,
          ⟨(.ld 1 false), [.t 14], (some 15), none⟩,
          ⟨(.bin .gtr), [.t 12, .t 15], (some 16), none⟩])
        (.ite (.t 16) (.seq (.ops [⟨.mv, [.c (.pv (.b false))], (some 4), none⟩])
          .ret)
          .skip))))
      (.ops [⟨(.bin .add), [.t 8, .c (.pv (.i .i64 1))], (some 17), none⟩,
        ⟨.mv, [.t 17], (some 8), none⟩])))))))
  (.seq (.ops [⟨.mv, [.c (.pv (.b true))], (some 4), none⟩])
  .ret)))
theorem fn45 : fnOf Try.prog 45 = some (18, [.t 4], ir45) := by kernel_rfl
def ir48 : C :=
  (.seq (.ops [⟨.box, [.t 0], (some 2), none⟩,
    ⟨.box, [.t 1], (some 3), none⟩,
    ⟨(.new (.vec 8 (List.replicate 8 (.i .u32 0)))), [], (some 4), none⟩])
  (.seq (.seq (.ops [⟨(.ld 8 true), [.t 3], (some 7), none⟩,
    ⟨.mv, [.c (.pv (.i .i64 0))], (some 8), none⟩])
  (.block 0 (.loop (.seq (.ops [⟨(.bin .lss), [.t 8, .c (.pv (.i .i64 8))], (some 9), none⟩])
      (.seq (.ite (.t 9) .skip
        (.exit 0))
      (.seq (.block 1 (.seq (.ops [⟨.mv, [.t 8], (some 10), none⟩,
          ⟨(.ixA 8 1 false), [.t 7, .t 8], (some 11), none⟩,
          ⟨.mv, [.t 10], (some 5), none⟩,
          ⟨.mv, [.t 11], (some 6), none⟩])
        (.ops [⟨.mv, [.t 5], (some 12), none⟩,
          ⟨.mv, [.t 5], (some 13), none⟩,
          ⟨(.iaA 8 1), [.t 2, .t 13], (some 14), none⟩,
          ⟨(.ld 1 false), [.t 14], (some 15), none⟩,
          ⟨.mv, [.t 6], (some 16), none⟩,
          ⟨.mn, [.t 15, .t 16], (some 17), none⟩,
          ⟨(.iaA 8 1), [.t 2, .t 12], (some 18), none⟩,
          ⟨(.sto 1), [.t 18, .t 17], none, none⟩])))
      (.ops [⟨(.bin .add), [.t 8, .c (.pv (.i .i64 1))], (some 19), none⟩,
        ⟨.mv, [.t 19], (some 8), none⟩])))))))
  (.seq (.ops [⟨(.ld 8 true), [.t 2], (some 20), none⟩,
    ⟨(.sto 8), [.t 4, .t 20], none, none⟩])
  .ret)))
theorem fn48 : fnOf Try.prog 48 = some (21, [.c 4 8 true], ir48) := by kernel_rfl
def ir49 : C :=
  (.seq (.ops [⟨.box, [.t 0], (some 2), none⟩,
    ⟨.box, [.t 1], (some 3), none⟩,
    ⟨(.new (.vec 8 (List.replicate 8 (.i .u32 0)))), [], (some 4), none⟩])
  (.seq (.seq (.ops [⟨(.ld 8 true), [.t 3], (some 7), none⟩,
    ⟨.mv, [.c (.pv (.i .i64 0))], (some 8), none⟩])
  (.block 0 (.loop (.seq (.ops [⟨(.bin .lss), [.t 8, .c (.pv (.i .i64 8))], (some 9), none⟩])
      (.seq (.ite (.t 9) .skip
        (.exit 0))
      (.seq (.block 1 (.seq (.ops [⟨.mv, [.t 8], (some 10), none⟩,
          ⟨(.ixA 8 1 false), [.t 7, .t 8], (some 11), none⟩,
          ⟨.mv, [.t 10], (some 5), none⟩,
          ⟨.mv, [.t 11], (some 6), none⟩])
        (.ops [⟨.mv, [.t 5], (some 12), none⟩,
          ⟨.mv, [.t 5], (some 13), none⟩,
          ⟨(.iaA 8 1), [.t 2, .t 13], (some 14), none⟩,
          ⟨(.ld 1 false), [.t 14], (some 15), none⟩,
          ⟨.mv, [.t 6], (some 16), none⟩,
          ⟨.mx, [.t 15, .t 16], (some 17), none⟩,
          ⟨(.iaA 8 1), [.t 2, .t 12], (some 18), none⟩,
          ⟨(.sto 1), [.t 18, .t 17], none, none⟩])))
      (.ops [⟨(.bin .add), [.t 8, .c (.pv (.i .i64 1))], (some 19), none⟩,
        ⟨.mv, [.t 19], (some 8), none⟩])))))))
  (.seq (.ops [⟨(.ld 8 true), [.t 2], (some 20), none⟩,
    ⟨(.sto 8), [.t 4, .t 20], none, none⟩])
  .ret)))
theorem fn49 : fnOf Try.prog 49 = some (21, [.c 4 8 true], ir49) := by kernel_rfl
def ir50 : C :=
  (.seq (.ops [⟨.box, [.t 0], (some 2), none⟩,
    ⟨.box, [.t 1], (some 3), none⟩,
    ⟨(.new (.vec 8 (List.replicate 8 (.i .u32 0)))), [], (some 4), none⟩])
  (.seq (.ops [⟨(.bldV 8 1), [.c (.pv (.i .u32 0)), .c (.pv (.i .u32 0)), .c (.pv (.i .u32 0)), .c (.pv (.i .u32 0)), .c (.pv (.i .u32 0)), .c (.pv (.i .u32 0)), .c (.pv (.i .u32 0)), .c (.pv (.i .u32 0))], (some 7), none⟩,
    ⟨(.new (.vec 8 (List.replicate 8 (.i .u32 0)))), [], (some 5), none⟩,
    ⟨(.sto 8), [.t 5, .t 7], none, none⟩])
  (.seq (.seq (.ops [⟨.mv, [.c (.pv (.i .i64 0))], (some 6), none⟩])
  (.block 0 (.loop (.seq (.seq (.ops [⟨.mv, [.t 6], (some 8), none⟩,
        ⟨(.bin .lss), [.t 8, .c (.pv (.i .i64 8))], (some 9), none⟩])
      (.ite (.t 9) .skip
        (.exit 0)))
      (.seq (.block 1 (.seq (.ops [⟨.mv, [.t 6], (some 12), none⟩,
          ⟨.mv, [.t 6], (some 13), none⟩,
          ⟨(.iaA 8 1), [.t 2, .t 13], (some 14), none⟩,
          ⟨(.ld 1 false), [.t 14], (some 15), none⟩,
          ⟨(.iaA 8 1), [.t 5, .t 12], (some 16), none⟩,
          ⟨(.sto 1), [.t 16, .t 15], none, none⟩])
        (.seq (.any [] [(⟨.mv, [.t 6], (some 17), none⟩, 0),
          (⟨(.iaA 8 1), [.t 3, .t 17], (some 18), none⟩, 0),
          (⟨(.ld 1 false), [.t 18], (some 19), none⟩, 1),
          (⟨.mv, [.t 6], (some 20), none⟩, 0),
          (⟨(.iaA 8 1), [.t 2, .t 20], (some 21), none⟩, 0),
          (⟨(.ld 1 false), [.t 21], (some 22), none⟩, 1),
          (⟨(.bin .gtr), [.t 19, .t 22], (some 23), none⟩, 0)])
        (.ite (.t 23) (.ops [⟨.mv, [.t 6], (some 24), none⟩,
            ⟨.mv, [.t 6], (some 25), none⟩,
            ⟨(.iaA 8 1), [.t 3, .t 25], (some 26), none⟩,
            ⟨(.ld 1 false), [.t 26], (some 27), none⟩,
            ⟨(.iaA 8 1), [.t 5, .t 24], (some 28), none⟩,
            ⟨(.sto 1), [.t 28, .t 27], none, none⟩])
          .skip))))
      (.ops [⟨.mv, [.t 6], (some 10), none⟩,
        ⟨(.bin .add), [.t 10, .c (.pv (.i .i64 1))], (some 11), none⟩,
        ⟨.mv, [.t 11], (some 6), none⟩]))))))
  (.seq (.ops [⟨(.ld 8 true), [.t 5], (some 29), none⟩,
    ⟨(.sto 8), [.t 4, .t 29], none, none⟩])
  .ret))))
theorem fn50 : fnOf Try.prog 50 = some (30, [.c 4 8 true], ir50) := by kernel_rfl
end Go.Proofs.Ytjlblbbhmmconaa.Fw
