/- The functions of the program in the small language, each checked against the program. -/
import Derived.Test.YtmeecblciegkkaaFwC
import Derived.Test.YtmeecblciegkkaaProg
import Derived.ProofKit
set_option linter.unusedVariables false
set_option linter.unusedSimpArgs false
set_option linter.unusedSectionVars false
set_option maxRecDepth 100000
namespace Go.Proofs.Ytmeecblciegkkaa.Fw
open Go.Proofs
theorem mixed : Try.prog.follows .mixedOrders = true := by kernel_rfl
def ir3 : C :=
  (.seq (.ops [⟨.box, [.t 0], (some 3), none⟩,
    ⟨.box, [.t 1], (some 4), none⟩,
    ⟨.box, [.t 2], (some 5), none⟩,
    ⟨.mv, [.c (.pv (.b false))], (some 6), none⟩])
  (.seq (.seq (.ops [⟨(.call 14), [], (some 9), none⟩,
    ⟨(.un .not), [.t 9], (some 10), none⟩])
  (.ite (.t 10) (.seq (.ops [⟨.mv, [.c (.pv (.b false))], (some 6), none⟩])
    .ret)
    .skip))
  (.seq (.any [14, 17, 18] [(⟨(.ld 8 true), [.t 3], (some 12), none⟩, 1, [14, 17, 18]),
    (⟨(.ld 8 true), [.t 5], (some 13), none⟩, 1, [14, 17, 18]),
    (⟨(.call 16), [.t 12, .t 13], (some 14), none⟩, 1, [14, 17, 18]),
    (⟨(.ld 8 true), [.t 4], (some 15), none⟩, 1, [14, 17, 18]),
    (⟨(.ld 8 true), [.t 5], (some 16), none⟩, 1, [14, 17, 18]),
    (⟨(.call 16), [.t 15, .t 16], (some 17), none⟩, 1, [17, 18]),
    (⟨(.call 15), [.t 14, .t 17], (some 18), none⟩, 1, [18]),
    (⟨.mv, [.t 18], (some 11), none⟩, 0, [14, 17]),
    (⟨(.ext 0), [.t 11], (some 19), none⟩, 0, [14, 17, 18]),
    (⟨(.ext 1), [.t 11], (some 20), none⟩, 0, [14, 17, 18]),
    (⟨.mv, [.t 19], (some 7), none⟩, 0, []),
    (⟨.mv, [.t 20], (some 8), none⟩, 0, [])])
  (.seq (.ops [⟨.mv, [.t 8], (some 21), none⟩,
    ⟨(.bin .eql), [.t 21, .c (.pv (.i .i64 0))], (some 22), none⟩,
    ⟨.mv, [.t 22], (some 23), none⟩,
    ⟨.mv, [.t 7], (some 24), (some (23, true))⟩,
    ⟨(.ld 8 true), [.t 3], (some 25), (some (23, true))⟩,
    ⟨(.ld 8 true), [.t 4], (some 26), (some (23, true))⟩,
    ⟨(.call 17), [.t 25, .t 26], (some 27), (some (23, true))⟩,
    ⟨(.bin .eql), [.t 24, .t 27], (some 28), (some (23, true))⟩,
    ⟨.pick, [.t 23, .t 28, .c (.pv (.b false))], (some 29), none⟩,
    ⟨.mv, [.t 29], (some 6), none⟩])
  .ret))))
theorem fn3 : fnOf Try.prog 3 = some (30, [.t 6], ir3) := by kernel_rfl
def ir14 : C :=
  (.seq (.ops [⟨.mv, [.c (.pv (.b false))], (some 0), none⟩])
  (.seq (.ops [⟨(.bldV 8 1), [.c (.pv (.i .u32 5)), .c (.pv (.i .u32 3)), .c (.pv (.i .u32 0)), .c (.pv (.i .u32 0)), .c (.pv (.i .u32 0)), .c (.pv (.i .u32 0)), .c (.pv (.i .u32 0)), .c (.pv (.i .u32 0))], (some 4), none⟩,
    ⟨(.bldV 8 1), [.c (.pv (.i .u32 2)), .c (.pv (.i .u32 4)), .c (.pv (.i .u32 0)), .c (.pv (.i .u32 0)), .c (.pv (.i .u32 0)), .c (.pv (.i .u32 0)), .c (.pv (.i .u32 0)), .c (.pv (.i .u32 0))], (some 5), none⟩,
    ⟨(.call 16), [.t 4, .t 5], (some 6), none⟩,
    ⟨.mv, [.t 6], (some 1), none⟩])
  (.seq (.ops [⟨.mv, [.t 1], (some 8), none⟩,
    ⟨(.bldV 8 1), [.c (.pv (.i .u32 2)), .c (.pv (.i .u32 4)), .c (.pv (.i .u32 0)), .c (.pv (.i .u32 0)), .c (.pv (.i .u32 0)), .c (.pv (.i .u32 0)), .c (.pv (.i .u32 0)), .c (.pv (.i .u32 0))], (some 9), none⟩,
    ⟨(.call 57), [.t 8, .t 9], (some 10), none⟩,
    ⟨.mv, [.t 10], (some 7), none⟩,
    ⟨(.ext 0), [.t 7], (some 11), none⟩,
    ⟨(.ext 1), [.t 7], (some 12), none⟩,
    ⟨(.new (.vec 8 (List.replicate 8 (.i .u32 0)))), [], (some 2), none⟩,
    ⟨(.sto 8), [.t 2, .t 11], none, none⟩,
    ⟨.mv, [.t 12], (some 3), none⟩])
  (.seq (.ops [⟨.mv, [.t 1], (some 13), none⟩,
    ⟨.b2s, [.t 13], (some 14), none⟩,
    ⟨(.bin .eql), [.t 14, .c (.pv (.s [1, 2, 1, 3, 1, 1]))], (some 15), none⟩,
    ⟨.mv, [.t 15], (some 16), none⟩,
    ⟨(.ld 8 true), [.t 2], (some 17), (some (16, true))⟩,
    ⟨(.bldV 8 1), [.c (.pv (.i .u32 5)), .c (.pv (.i .u32 3)), .c (.pv (.i .u32 0)), .c (.pv (.i .u32 0)), .c (.pv (.i .u32 0)), .c (.pv (.i .u32 0)), .c (.pv (.i .u32 0)), .c (.pv (.i .u32 0))], (some 18), (some (16, true))⟩,
    ⟨(.eqv false [.int .u32, .int .u32, .int .u32, .int .u32, .int .u32, .int .u32, .int .u32, .int .u32]), [.t 17, .t 18], (some 19), (some (16, true))⟩,
    ⟨.pick, [.t 16, .t 19, .c (.pv (.b false))], (some 20), none⟩,
    ⟨.mv, [.t 20], (some 21), none⟩,
    ⟨.mv, [.t 3], (some 22), (some (21, true))⟩,
    ⟨(.bin .eql), [.t 22, .c (.pv (.i .i64 0))], (some 23), (some (21, true))⟩,
    ⟨.pick, [.t 21, .t 23, .c (.pv (.b false))], (some 24), none⟩,
    ⟨.mv, [.t 24], (some 0), none⟩])
  .ret))))
theorem fn14 : fnOf Try.prog 14 = some (25, [.t 0], ir14) := by kernel_rfl
def ir15 : C :=
  (.seq (.ops [⟨.mv, [.c (.pv (.i .i64 0))], (some 4), none⟩,
    ⟨.mv, [.c (.pv (.i .i64 0))], (some 5), none⟩])
  (.seq (.ops [⟨.mv, [.t 0], (some 13), none⟩,
    ⟨(.call 58), [.t 13], (some 14), none⟩,
    ⟨.mv, [.t 14], (some 12), none⟩,
    ⟨(.ext 0), [.t 12], (some 15), none⟩,
    ⟨(.ext 1), [.t 12], (some 16), none⟩,
    ⟨(.new (.vec 8 (List.replicate 8 (.i .i64 0)))), [], (some 6), none⟩,
    ⟨(.sto 8), [.t 6, .t 15], none, none⟩,
    ⟨.mv, [.t 16], (some 7), none⟩])
  (.seq (.seq (.ops [⟨.mv, [.t 7], (some 17), none⟩,
    ⟨(.bin .neq), [.t 17, .c (.pv (.i .i64 0))], (some 18), none⟩])
  (.ite (.t 18) (.seq (.ops [⟨.mv, [.t 7], (some 19), none⟩,
      ⟨.mv, [.c (.pv (.i .i64 0))], (some 4), none⟩,
      ⟨.mv, [.t 19], (some 5), none⟩])
    .ret)
    .skip))
  (.seq (.ops [⟨.mv, [.t 1], (some 21), none⟩,
    ⟨(.call 58), [.t 21], (some 22), none⟩,
    ⟨.mv, [.t 22], (some 20), none⟩,
    ⟨(.ext 0), [.t 20], (some 23), none⟩,
    ⟨(.ext 1), [.t 20], (some 24), none⟩,
    ⟨(.new (.vec 8 (List.replicate 8 (.i .i64 0)))), [], (some 8), none⟩,
    ⟨(.sto 8), [.t 8, .t 23], none, none⟩,
    ⟨.mv, [.t 24], (some 7), none⟩])
  (.seq (.seq (.ops [⟨.mv, [.t 7], (some 25), none⟩,
    ⟨(.bin .neq), [.t 25, .c (.pv (.i .i64 0))], (some 26), none⟩])
  (.ite (.t 26) (.seq (.ops [⟨.mv, [.t 7], (some 27), none⟩,
      ⟨.mv, [.c (.pv (.i .i64 0))], (some 4), none⟩,
      ⟨.mv, [.t 27], (some 5), none⟩])
    .ret)
    .skip))
  (.seq (.ops [⟨.mv, [.c (.pv (.b false))], (some 9), none⟩,
    ⟨.mv, [.c (.pv (.b false))], (some 10), none⟩])
  (.seq (.seq (.ops [⟨.mv, [.c (.pv (.i .i64 0))], (some 28), none⟩])
  (.block 0 (.loop (.seq (.ops [⟨(.bin .lss), [.t 28, .c (.pv (.i .i64 8))], (some 29), none⟩])
      (.seq (.ite (.t 29) .skip
        (.exit 0))
      (.seq (.block 1 (.seq (.ops [⟨.mv, [.t 28], (some 30), none⟩,
          ⟨.mv, [.t 30], (some 11), none⟩])
        (.any [] [(⟨.mv, [.t 9], (some 31), none⟩, 0, []),
          (⟨.mv, [.t 31], (some 32), none⟩, 0, []),
          (⟨.mv, [.t 11], (some 33), (some (32, false))⟩, 0, []),
          (⟨(.iaA 8 1), [.t 6, .t 33], (some 34), (some (32, false))⟩, 0, []),
          (⟨(.ld 1 false), [.t 34], (some 35), (some (32, false))⟩, 1, []),
          (⟨.mv, [.t 11], (some 36), (some (32, false))⟩, 0, []),
          (⟨(.iaA 8 1), [.t 8, .t 36], (some 37), (some (32, false))⟩, 0, []),
          (⟨(.ld 1 false), [.t 37], (some 38), (some (32, false))⟩, 1, []),
          (⟨(.bin .lss), [.t 35, .t 38], (some 39), (some (32, false))⟩, 0, []),
          (⟨.pick, [.t 32, .c (.pv (.b true)), .t 39], (some 40), none⟩, 0, []),
          (⟨.mv, [.t 10], (some 41), none⟩, 0, []),
          (⟨.mv, [.t 41], (some 42), none⟩, 0, []),
          (⟨.mv, [.t 11], (some 43), (some (42, false))⟩, 0, []),
          (⟨(.iaA 8 1), [.t 6, .t 43], (some 44), (some (42, false))⟩, 0, []),
          (⟨(.ld 1 false), [.t 44], (some 45), (some (42, false))⟩, 1, []),
          (⟨.mv, [.t 11], (some 46), (some (42, false))⟩, 0, []),
          (⟨(.iaA 8 1), [.t 8, .t 46], (some 47), (some (42, false))⟩, 0, []),
          (⟨(.ld 1 false), [.t 47], (some 48), (some (42, false))⟩, 1, []),
          (⟨(.bin .gtr), [.t 45, .t 48], (some 49), (some (42, false))⟩, 0, []),
          (⟨.pick, [.t 42, .c (.pv (.b true)), .t 49], (some 50), none⟩, 0, []),
          (⟨.mv, [.t 40], (some 9), none⟩, 0, []),
          (⟨.mv, [.t 50], (some 10), none⟩, 0, [])])))
      (.ops [⟨(.bin .add), [.t 28, .c (.pv (.i .i64 1))], (some 51), none⟩,
        ⟨.mv, [.t 51], (some 28), none⟩])))))))
  (.seq (.block 2 (.seq (.ops [⟨.mv, [.t 9], (some 53), none⟩,
      ⟨.mv, [.t 53], (some 54), none⟩,
      ⟨.mv, [.t 10], (some 55), (some (54, true))⟩,
      ⟨.pick, [.t 54, .t 55, .c (.pv (.b false))], (some 56), none⟩,
      ⟨.mv, [.t 56], (some 52), none⟩])
    (.ite (.t 52) (.seq (.ops [⟨.mv, [.c (.pv (.i .i64 2))], (some 4), none⟩,
        ⟨.mv, [.c (.pv (.i .i64 0))], (some 5), none⟩])
      .ret)
      (.seq (.ops [⟨.mv, [.t 9], (some 58), none⟩,
        ⟨.mv, [.t 58], (some 57), none⟩])
      (.ite (.t 57) (.seq (.ops [⟨.mv, [.c (.pv (.i .i64 (-1)))], (some 4), none⟩,
          ⟨.mv, [.c (.pv (.i .i64 0))], (some 5), none⟩])
        .ret)
        (.seq (.ops [⟨.mv, [.t 10], (some 60), none⟩,
          ⟨.mv, [.t 60], (some 59), none⟩])
        (.ite (.t 59) (.seq (.ops [⟨.mv, [.c (.pv (.i .i64 1))], (some 4), none⟩,
            ⟨.mv, [.c (.pv (.i .i64 0))], (some 5), none⟩])
          .ret)
          .skip)))))))
  (.seq (.ops [⟨.mv, [.c (.pv (.i .i64 0))], (some 4), none⟩,
    ⟨.mv, [.c (.pv (.i .i64 0))], (some 5), none⟩])
  .ret)))))))))
theorem fn15 : fnOf Try.prog 15 = some (61, [.t 4, .t 5], ir15) := by kernel_rfl
def ir16 : C :=
  (.seq (.ops [⟨.box, [.t 0], (some 2), none⟩,
    ⟨.box, [.t 1], (some 3), none⟩,
    ⟨.mv, [.c (.pv (.sl true 0 []))], (some 4), none⟩])
  (.seq (.ops [⟨.mv, [.c (.pv (.i .u8 0))], (some 5), none⟩,
    ⟨.mv, [.c (.pv (.i .u8 0))], (some 6), none⟩])
  (.seq (.ops [⟨.mv, [.c (.pv (.sl true 0 []))], (some 7), none⟩])
  (.seq (.seq (.ops [⟨(.ld 8 true), [.t 2], (some 10), none⟩,
    ⟨.mv, [.c (.pv (.i .i64 0))], (some 11), none⟩])
  (.block 0 (.loop (.seq (.ops [⟨(.bin .lss), [.t 11, .c (.pv (.i .i64 8))], (some 12), none⟩])
      (.seq (.ite (.t 12) .skip
        (.exit 0))
      (.seq (.block 1 (.seq (.ops [⟨.mv, [.t 11], (some 13), none⟩,
          ⟨(.ixA 8 1 false), [.t 10, .t 11], (some 14), none⟩,
          ⟨.mv, [.t 13], (some 8), none⟩,
          ⟨.mv, [.t 14], (some 9), none⟩])
        (.block 2 (.seq (.ops [⟨.mv, [.t 9], (some 16), none⟩,
            ⟨.mv, [.t 8], (some 17), none⟩,
            ⟨(.iaA 8 1), [.t 3, .t 17], (some 18), none⟩,
            ⟨(.ld 1 false), [.t 18], (some 19), none⟩,
            ⟨(.bin .gtr), [.t 16, .t 19], (some 20), none⟩,
            ⟨.mv, [.t 20], (some 15), none⟩])
          (.ite (.t 15) (.seq (.ops [⟨.mv, [.t 5], (some 21), none⟩,
              ⟨.mv, [.t 8], (some 22), none⟩,
              ⟨(.bin .shl), [.c (.pv (.i .u8 1)), .t 22], (some 23), none⟩,
              ⟨(.bin .or), [.t 21, .t 23], (some 24), none⟩,
              ⟨.mv, [.t 24], (some 5), none⟩])
            (.ops [⟨.mv, [.t 7], (some 25), none⟩,
              ⟨.mv, [.t 9], (some 26), none⟩,
              ⟨.mv, [.t 8], (some 27), none⟩,
              ⟨(.iaA 8 1), [.t 3, .t 27], (some 28), none⟩,
              ⟨(.ld 1 false), [.t 28], (some 29), none⟩,
              ⟨(.bin .sub), [.t 26, .t 29], (some 30), none⟩,
              ⟨(.call 59), [.t 30], (some 31), none⟩,
              ⟨(.app 1 1), [.t 25, .t 31], (some 32), none⟩,
              ⟨.mv, [.t 32], (some 7), none⟩]))
            (.seq (.ops [⟨.mv, [.t 9], (some 34), none⟩,
              ⟨.mv, [.t 8], (some 35), none⟩,
              ⟨(.iaA 8 1), [.t 3, .t 35], (some 36), none⟩,
              ⟨(.ld 1 false), [.t 36], (some 37), none⟩,
              ⟨(.bin .lss), [.t 34, .t 37], (some 38), none⟩,
              ⟨.mv, [.t 38], (some 33), none⟩])
            (.ite (.t 33) (.seq (.ops [⟨.mv, [.t 6], (some 39), none⟩,
                ⟨.mv, [.t 8], (some 40), none⟩,
                ⟨(.bin .shl), [.c (.pv (.i .u8 1)), .t 40], (some 41), none⟩,
                ⟨(.bin .or), [.t 39, .t 41], (some 42), none⟩,
                ⟨.mv, [.t 42], (some 6), none⟩])
              (.ops [⟨.mv, [.t 7], (some 43), none⟩,
                ⟨.mv, [.t 8], (some 44), none⟩,
                ⟨(.iaA 8 1), [.t 3, .t 44], (some 45), none⟩,
                ⟨(.ld 1 false), [.t 45], (some 46), none⟩,
                ⟨.mv, [.t 9], (some 47), none⟩,
                ⟨(.bin .sub), [.t 46, .t 47], (some 48), none⟩,
                ⟨(.call 59), [.t 48], (some 49), none⟩,
                ⟨(.app 1 1), [.t 43, .t 49], (some 50), none⟩,
                ⟨.mv, [.t 50], (some 7), none⟩]))
              .skip)))))))
      (.ops [⟨(.bin .add), [.t 11, .c (.pv (.i .i64 1))], (some 51), none⟩,
        ⟨.mv, [.t 51], (some 11), none⟩])))))))
  (.seq (.ops [⟨.mv, [.t 5], (some 52), none⟩,
    ⟨.mv, [.t 6], (some 53), none⟩,
    ⟨(.bsl 1), [.t 52, .t 53], (some 54), none⟩,
    ⟨.mv, [.t 7], (some 55), none⟩,
    ⟨(.app 1 1), [.t 54, .t 55], (some 56), none⟩,
    ⟨.mv, [.t 56], (some 4), none⟩])
  .ret)))))
theorem fn16 : fnOf Try.prog 16 = some (57, [.t 4], ir16) := by kernel_rfl
def ir17 : C :=
  (.seq (.ops [⟨.box, [.t 0], (some 2), none⟩,
    ⟨.box, [.t 1], (some 3), none⟩,
    ⟨.mv, [.c (.pv (.i .i64 0))], (some 4), none⟩])
  (.seq (.ops [⟨.mv, [.c (.pv (.b false))], (some 5), none⟩,
    ⟨.mv, [.c (.pv (.b false))], (some 6), none⟩])
  (.seq (.seq (.ops [⟨.mv, [.c (.pv (.i .i64 0))], (some 7), none⟩])
  (.block 0 (.loop (.seq (.seq (.ops [⟨.mv, [.t 7], (some 8), none⟩,
        ⟨(.bin .lss), [.t 8, .c (.pv (.i .i64 8))], (some 9), none⟩])
      (.ite (.t 9) .skip
        (.exit 0)))
      (.seq (.block 1 (.seq (.any [] [(⟨.mv, [.t 5], (some 12), none⟩, 0, []),
          (⟨.mv, [.t 12], (some 13), none⟩, 0, []),
          (⟨.mv, [.t 7], (some 14), (some (13, false))⟩, 0, []),
          (⟨(.iaA 8 1), [.t 2, .t 14], (some 15), (some (13, false))⟩, 0, []),
          (⟨(.ld 1 false), [.t 15], (some 16), (some (13, false))⟩, 1, []),
          (⟨.mv, [.t 7], (some 17), (some (13, false))⟩, 0, []),
          (⟨(.iaA 8 1), [.t 3, .t 17], (some 18), (some (13, false))⟩, 0, []),
          (⟨(.ld 1 false), [.t 18], (some 19), (some (13, false))⟩, 1, []),
          (⟨(.bin .lss), [.t 16, .t 19], (some 20), (some (13, false))⟩, 0, []),
          (⟨.pick, [.t 13, .c (.pv (.b true)), .t 20], (some 21), none⟩, 0, []),
          (⟨.mv, [.t 21], (some 5), none⟩, 0, [])])
        (.any [] [(⟨.mv, [.t 6], (some 22), none⟩, 0, []),
          (⟨.mv, [.t 22], (some 23), none⟩, 0, []),
          (⟨.mv, [.t 7], (some 24), (some (23, false))⟩, 0, []),
          (⟨(.iaA 8 1), [.t 2, .t 24], (some 25), (some (23, false))⟩, 0, []),
          (⟨(.ld 1 false), [.t 25], (some 26), (some (23, false))⟩, 1, []),
          (⟨.mv, [.t 7], (some 27), (some (23, false))⟩, 0, []),
          (⟨(.iaA 8 1), [.t 3, .t 27], (some 28), (some (23, false))⟩, 0, []),
          (⟨(.ld 1 false), [.t 28], (some 29), (some (23, false))⟩, 1, []),
          (⟨(.bin .gtr), [.t 26, .t 29], (some 30), (some (23, false))⟩, 0, []),
          (⟨.pick, [.t 23, .c (.pv (.b true)), .t 30], (some 31), none⟩, 0, []),
          (⟨.mv, [.t 31], (some 6), none⟩, 0, [])])))
      (.ops [⟨.mv, [.t 7], (some 10), none⟩,
        ⟨(.bin .add), [.t 10, .c (.pv (.i .i64 1))], (some 11), none⟩,
        ⟨.mv, [.t 11], (some 7), none⟩]))))))
  (.seq (.block 2 (.seq (.ops [⟨.mv, [.t 5], (some 33), none⟩,
      ⟨.mv, [.t 33], (some 34), none⟩,
      ⟨.mv, [.t 6], (some 35), (some (34, true))⟩,
      ⟨.pick, [.t 34, .t 35, .c (.pv (.b false))], (some 36), none⟩,
      ⟨.mv, [.t 36], (some 32), none⟩])
    (.ite (.t 32) (.seq (.ops [⟨.mv, [.c (.pv (.i .i64 2))], (some 4), none⟩])
      .ret)
      (.seq (.ops [⟨.mv, [.t 5], (some 38), none⟩,
        ⟨.mv, [.t 38], (some 37), none⟩])
      (.ite (.t 37) (.seq (.ops [⟨.mv, [.c (.pv (.i .i64 (-1)))], (some 4), none⟩])
        .ret)
        (.seq (.ops [⟨.mv, [.t 6], (some 40), none⟩,
          ⟨.mv, [.t 40], (some 39), none⟩])
        (.ite (.t 39) (.seq (.ops [⟨.mv, [.c (.pv (.i .i64 1))], (some 4), none⟩])
          .ret)
          .skip)))))))
  (.seq (.ops [⟨.mv, [.c (.pv (.i .i64 0))], (some 4), none⟩])
  .ret)))))
theorem fn17 : fnOf Try.prog 17 = some (41, [.t 4], ir17) := by kernel_rfl
def ir57 : C :=
  (.seq (.ops [⟨.box, [.t 1], (some 3), none⟩,
    ⟨(.new (.vec 8 (List.replicate 8 (.i .u32 0)))), [], (some 4), none⟩,
    ⟨.mv, [.c (.pv (.i .i64 0))], (some 5), none⟩])
  (.seq (.ops [⟨.mv, [.t 0], (some 13), none⟩,
    ⟨(.call 58), [.t 13], (some 14), none⟩,
    ⟨.mv, [.t 14], (some 12), none⟩,
    ⟨(.ext 0), [.t 12], (some 15), none⟩,
    ⟨(.ext 1), [.t 12], (some 16), none⟩,
    ⟨(.new (.vec 8 (List.replicate 8 (.i .i64 0)))), [], (some 6), none⟩,
    ⟨(.sto 8), [.t 6, .t 15], none, none⟩,
    ⟨.mv, [.t 16], (some 7), none⟩])
  (.seq (.seq (.ops [⟨.mv, [.t 7], (some 17), none⟩,
    ⟨(.bin .neq), [.t 17, .c (.pv (.i .i64 0))], (some 18), none⟩])
  (.ite (.t 18) (.seq (.ops [⟨(.bldV 8 1), [.c (.pv (.i .u32 0)), .c (.pv (.i .u32 0)), .c (.pv (.i .u32 0)), .c (.pv (.i .u32 0)), .c (.pv (.i .u32 0)), .c (.pv (.i .u32 0)), .c (.pv (.i .u32 0)), .c (.pv (.i .u32 0))], (some 19), none⟩,
      ⟨.mv, [.t 7], (some 20), none⟩,
      ⟨(.sto 8), [.t 4, .t 19], none, none⟩,
      ⟨.mv, [.t 20], (some 5), none⟩])
    .ret)
    .skip))
  (.seq (.ops [⟨(.new (.vec 8 (List.replicate 8 (.i .u32 0)))), [], (some 8), none⟩])
  (.seq (.seq (.ops [⟨(.ld 8 true), [.t 6], (some 21), none⟩,
    ⟨.mv, [.c (.pv (.i .i64 0))], (some 22), none⟩])
  (.block 0 (.loop (.seq (.ops [⟨(.bin .lss), [.t 22, .c (.pv (.i .i64 8))], (some 23), none⟩])
      (.seq (.ite (.t 23) .skip
        (.exit 0))
      (.seq (.block 1 (.seq (.ops [⟨.mv, [.t 22], (some 24), none⟩,
          ⟨(.ixA 8 1 false), [.t 21, .t 22], (some 25), none⟩,
          ⟨.mv, [.t 24], (some 9), none⟩,
          ⟨.mv, [.t 25], (some 10), none⟩])
        (.seq (.ops [⟨.mv, [.t 9], (some 26), none⟩,
          ⟨(.iaA 8 1), [.t 3, .t 26], (some 27), none⟩,
          ⟨(.ld 1 false), [.t 27], (some 28), none⟩,
          ⟨(.cvI .i64), [.t 28], (some 29), none⟩,
          ⟨.mv, [.t 10], (some 30), none⟩,
          ⟨(.bin .add), [.t 29, .t 30], (some 31), none⟩,
          ⟨.mv, [.t 31], (some 11), none⟩])
        (.seq (.seq (.ops [⟨.mv, [.t 11], (some 32), none⟩,
          ⟨(.bin .lss), [.t 32, .c (.pv (.i .i64 0))], (some 33), none⟩,
          ⟨.mv, [.t 33], (some 34), none⟩,
          ⟨.mv, [.t 11], (some 35), (some (34, false))⟩,
          ⟨(.bin .gtr), [.t 35, .c (.pv (.i .i64 4294967295))], (some 36), (some (34, false))⟩,
          ⟨.pick, [.t 34, .c (.pv (.b true)), .t 36], (some 37), none⟩])
        (.ite (.t 37) (.seq (.ops [⟨(.bldV 8 1), [.c (.pv (.i .u32 0)), .c (.pv (.i .u32 0)), .c (.pv (.i .u32 0)), .c (.pv (.i .u32 0)), .c (.pv (.i .u32 0)), .c (.pv (.i .u32 0)), .c (.pv (.i .u32 0)), .c (.pv (.i .u32 0))], (some 38), none⟩,
            ⟨(.sto 8), [.t 4, .t 38], none, none⟩,
            ⟨.mv, [.c (.pv (.i .i64 7))], (some 5), none⟩])
          .ret)
          .skip))
        (.ops [⟨.mv, [.t 9], (some 39), none⟩,
          ⟨.mv, [.t 11], (some 40), none⟩,
          ⟨(.cvI .u32), [.t 40], (some 41), none⟩,
          ⟨(.iaA 8 1), [.t 8, .t 39], (some 42), none⟩,
          ⟨(.sto 1), [.t 42, .t 41], none, none⟩])))))
      (.ops [⟨(.bin .add), [.t 22, .c (.pv (.i .i64 1))], (some 43), none⟩,
        ⟨.mv, [.t 43], (some 22), none⟩])))))))
  (.seq (.ops [⟨(.ld 8 true), [.t 8], (some 44), none⟩,
    ⟨(.sto 8), [.t 4, .t 44], none, none⟩,
    ⟨.mv, [.c (.pv (.i .i64 0))], (some 5), none⟩])
  .ret))))))
theorem fn57 : fnOf Try.prog 57 = some (45, [.c 4 8 true, .t 5], ir57) := by kernel_rfl
def ir58 : C :=
  (.seq (.ops [⟨(.new (.vec 8 (List.replicate 8 (.i .i64 0)))), [], (some 2), none⟩,
    ⟨.mv, [.c (.pv (.i .i64 0))], (some 3), none⟩])
  (.seq (.ops [⟨(.new (.vec 8 (List.replicate 8 (.i .i64 0)))), [], (some 4), none⟩])
  (.seq (.seq (.ops [⟨.mv, [.t 0], (some 12), none⟩,
    ⟨.len, [.t 12], (some 13), none⟩,
    ⟨(.bin .lss), [.t 13, .c (.pv (.i .i64 2))], (some 14), none⟩])
  (.ite (.t 14) (.seq (.ops [⟨(.bldV 8 1), [.c (.pv (.i .i64 0)), .c (.pv (.i .i64 0)), .c (.pv (.i .i64 0)), .c (.pv (.i .i64 0)), .c (.pv (.i .i64 0)), .c (.pv (.i .i64 0)), .c (.pv (.i .i64 0)), .c (.pv (.i .i64 0))], (some 15), none⟩,
      ⟨(.sto 8), [.t 2, .t 15], none, none⟩,
      ⟨.mv, [.c (.pv (.i .i64 8))], (some 3), none⟩])
    .ret)
    .skip))
  (.seq (.anyF [] [(⟨.mv, [.t 0], (some 16), none⟩, 0, []),
    (⟨(.iaS 1), [.t 16, .c (.pv (.i .i64 0))], (some 17), none⟩, 1, []),
    (⟨(.ld 1 false), [.t 17], (some 18), none⟩, 1, []),
    (⟨.mv, [.t 0], (some 19), none⟩, 0, []),
    (⟨(.iaS 1), [.t 19, .c (.pv (.i .i64 1))], (some 20), none⟩, 1, []),
    (⟨(.ld 1 false), [.t 20], (some 21), none⟩, 1, []),
    (⟨.mv, [.t 0], (some 22), none⟩, 0, []),
    (⟨(.slc 1 true false false), [.t 22, .c (.pv (.i .i64 2))], (some 23), none⟩, 1, []),
    (⟨.mv, [.t 18], (some 5), none⟩, 0, []),
    (⟨.mv, [.t 21], (some 6), none⟩, 0, []),
    (⟨.mv, [.t 23], (some 7), none⟩, 0, [])])
  (.seq (.seq (.ops [⟨.mv, [.t 5], (some 24), none⟩,
    ⟨.mv, [.t 6], (some 25), none⟩,
    ⟨(.bin .and), [.t 24, .t 25], (some 26), none⟩,
    ⟨(.bin .neq), [.t 26, .c (.pv (.i .u8 0))], (some 27), none⟩])
  (.ite (.t 27) (.seq (.ops [⟨(.bldV 8 1), [.c (.pv (.i .i64 0)), .c (.pv (.i .i64 0)), .c (.pv (.i .i64 0)), .c (.pv (.i .i64 0)), .c (.pv (.i .i64 0)), .c (.pv (.i .i64 0)), .c (.pv (.i .i64 0)), .c (.pv (.i .i64 0))], (some 28), none⟩,
      ⟨(.sto 8), [.t 2, .t 28], none, none⟩,
      ⟨.mv, [.c (.pv (.i .i64 7))], (some 3), none⟩])
    .ret)
    .skip))
  (.seq .skip
  (.seq (.seq (.ops [⟨.mv, [.c (.pv (.i .i64 0))], (some 29), none⟩])
  (.block 0 (.loop (.seq (.ops [⟨(.bin .lss), [.t 29, .c (.pv (.i .i64 8))], (some 30), none⟩])
      (.seq (.ite (.t 30) .skip
        (.exit 0))
      (.seq (.block 1 (.seq (.ops [⟨.mv, [.t 29], (some 31), none⟩,
          ⟨.mv, [.t 31], (some 8), none⟩])
        (.seq (.ops [⟨.mv, [.c (.pv (.i .i64 1))], (some 9), none⟩])
        (.seq (.block 2 (.seq (.ops [⟨.mv, [.t 6], (some 33), none⟩,
            ⟨.mv, [.t 8], (some 34), none⟩,
            ⟨(.bin .shr), [.t 33, .t 34], (some 35), none⟩,
            ⟨(.bin .and), [.t 35, .c (.pv (.i .u8 1))], (some 36), none⟩,
            ⟨(.bin .eql), [.t 36, .c (.pv (.i .u8 1))], (some 37), none⟩,
            ⟨.mv, [.t 37], (some 32), none⟩])
          (.ite (.t 32) (.ops [⟨.mv, [.c (.pv (.i .i64 (-1)))], (some 9), none⟩])
            (.seq (.ops [⟨.mv, [.t 5], (some 39), none⟩,
              ⟨.mv, [.t 8], (some 40), none⟩,
              ⟨(.bin .shr), [.t 39, .t 40], (some 41), none⟩,
              ⟨(.bin .and), [.t 41, .c (.pv (.i .u8 1))], (some 42), none⟩,
              ⟨(.bin .eql), [.t 42, .c (.pv (.i .u8 0))], (some 43), none⟩,
              ⟨.mv, [.t 43], (some 38), none⟩])
            (.ite (.t 38) (.exit 1)
              .skip)))))
        (.seq (.seq (.ops [⟨.mv, [.t 7], (some 44), none⟩,
          ⟨.len, [.t 44], (some 45), none⟩,
          ⟨(.bin .eql), [.t 45, .c (.pv (.i .i64 0))], (some 46), none⟩,
          ⟨.mv, [.t 46], (some 47), none⟩,
          ⟨.mv, [.t 7], (some 48), (some (47, false))⟩,
          ⟨(.iaS 1), [.t 48, .c (.pv (.i .i64 0))], (some 49), (some (47, false))⟩,
          ⟨(.ld 1 false), [.t 49], (some 50), (some (47, false))⟩,
          ⟨(.cvI .i64), [.t 50], (some 51), (some (47, false))⟩,
          ⟨.mv, [.t 7], (some 52), (some (47, false))⟩,
          ⟨.len, [.t 52], (some 53), (some (47, false))⟩,
          ⟨(.bin .sub), [.t 53, .c (.pv (.i .i64 1))], (some 54), (some (47, false))⟩,
          ⟨(.bin .gtr), [.t 51, .t 54], (some 55), (some (47, false))⟩,
          ⟨.pick, [.t 47, .c (.pv (.b true)), .t 55], (some 56), none⟩])
        (.ite (.t 56) (.seq (.ops [⟨(.bldV 8 1), [.c (.pv (.i .i64 0)), .c (.pv (.i .i64 0)), .c (.pv (.i .i64 0)), .c (.pv (.i .i64 0)), .c (.pv (.i .i64 0)), .c (.pv (.i .i64 0)), .c (.pv (.i .i64 0)), .c (.pv (.i .i64 0))], (some 57), none⟩,
            ⟨(.sto 8), [.t 2, .t 57], none, none⟩,
            ⟨.mv, [.c (.pv (.i .i64 8))], (some 3), none⟩])
          .ret)
          .skip))
        (.seq (.ops [⟨.mv, [.t 7], (some 59), none⟩,
          ⟨.mv, [.t 7], (some 60), none⟩,
          ⟨(.iaS 1), [.t 60, .c (.pv (.i .i64 0))], (some 61), none⟩,
          ⟨(.ld 1 false), [.t 61], (some 62), none⟩,
          ⟨(.cvI .i64), [.t 62], (some 63), none⟩,
          ⟨(.bin .add), [.c (.pv (.i .i64 1)), .t 63], (some 64), none⟩,
          ⟨(.slc 1 true true false), [.t 59, .c (.pv (.i .i64 1)), .t 64], (some 65), none⟩,
          ⟨(.call 112), [.t 65], (some 66), none⟩,
          ⟨.mv, [.t 66], (some 58), none⟩,
          ⟨(.ext 0), [.t 58], (some 67), none⟩,
          ⟨(.ext 1), [.t 58], (some 68), none⟩,
          ⟨.mv, [.t 67], (some 10), none⟩,
          ⟨.mv, [.t 68], (some 11), none⟩])
        (.seq (.seq (.ops [⟨.mv, [.t 11], (some 69), none⟩,
          ⟨(.bin .neq), [.t 69, .c (.pv (.i .i64 0))], (some 70), none⟩,
          ⟨.mv, [.t 70], (some 71), none⟩,
          ⟨.mv, [.t 10], (some 72), (some (71, false))⟩,
          ⟨(.bin .eql), [.t 72, .c (.pv (.i .u64 0))], (some 73), (some (71, false))⟩,
          ⟨.pick, [.t 71, .c (.pv (.b true)), .t 73], (some 74), none⟩,
          ⟨.mv, [.t 74], (some 75), none⟩,
          ⟨.mv, [.t 10], (some 76), (some (75, false))⟩,
          ⟨(.bin .gtr), [.t 76, .c (.pv (.i .u64 4294967295))], (some 77), (some (75, false))⟩,
          ⟨.pick, [.t 75, .c (.pv (.b true)), .t 77], (some 78), none⟩])
        (.ite (.t 78) (.seq (.ops [⟨(.bldV 8 1), [.c (.pv (.i .i64 0)), .c (.pv (.i .i64 0)), .c (.pv (.i .i64 0)), .c (.pv (.i .i64 0)), .c (.pv (.i .i64 0)), .c (.pv (.i .i64 0)), .c (.pv (.i .i64 0)), .c (.pv (.i .i64 0))], (some 79), none⟩,
            ⟨(.sto 8), [.t 2, .t 79], none, none⟩,
            ⟨.mv, [.c (.pv (.i .i64 7))], (some 3), none⟩])
          .ret)
          .skip))
        (.seq (.ops [⟨.mv, [.t 8], (some 80), none⟩,
          ⟨.mv, [.t 9], (some 81), none⟩,
          ⟨.mv, [.t 10], (some 82), none⟩,
          ⟨(.cvI .i64), [.t 82], (some 83), none⟩,
          ⟨(.bin .mul), [.t 81, .t 83], (some 84), none⟩,
          ⟨(.iaA 8 1), [.t 4, .t 80], (some 85), none⟩,
          ⟨(.sto 1), [.t 85, .t 84], none, none⟩])
        (.ops [⟨.mv, [.t 7], (some 86), none⟩,
          ⟨.mv, [.t 7], (some 87), none⟩,
          ⟨(.iaS 1), [.t 87, .c (.pv (.i .i64 0))], (some 88), none⟩,
          ⟨(.ld 1 false), [.t 88], (some 89), none⟩,
          ⟨(.cvI .i64), [.t 89], (some 90), none⟩,
          ⟨(.bin .add), [.c (.pv (.i .i64 1)), .t 90], (some 91), none⟩,
          ⟨(.slc 1 true false false), [.t 86, .t 91], (some 92), none⟩,
          ⟨.mv, [.t 92], (some 7), none⟩])))))))))
      (.ops [⟨(.bin .add), [.t 29, .c (.pv (.i .i64 1))], (some 93), none⟩,
        ⟨.mv, [.t 93], (some 29), none⟩])))))))
  (.seq (.seq (.ops [⟨.mv, [.t 7], (some 94), none⟩,
    ⟨.len, [.t 94], (some 95), none⟩,
    ⟨(.bin .gtr), [.t 95, .c (.pv (.i .i64 0))], (some 96), none⟩])
  (.ite (.t 96) (.seq (.ops [⟨(.bldV 8 1), [.c (.pv (.i .i64 0)), .c (.pv (.i .i64 0)), .c (.pv (.i .i64 0)), .c (.pv (.i .i64 0)), .c (.pv (.i .i64 0)), .c (.pv (.i .i64 0)), .c (.pv (.i .i64 0)), .c (.pv (.i .i64 0))], (some 97), none⟩,
      ⟨(.sto 8), [.t 2, .t 97], none, none⟩,
      ⟨.mv, [.c (.pv (.i .i64 4))], (some 3), none⟩])
    .ret)
    .skip))
  (.seq (.ops [⟨(.ld 8 true), [.t 4], (some 98), none⟩,
    ⟨(.sto 8), [.t 2, .t 98], none, none⟩,
    ⟨.mv, [.c (.pv (.i .i64 0))], (some 3), none⟩])
  .ret)))))))))
theorem fn58 : fnOf Try.prog 58 = some (99, [.c 2 8 true, .t 3], ir58) := by kernel_rfl
def ir59 : C :=
  (.seq (.ops [⟨.mv, [.c (.pv (.sl true 0 []))], (some 2), none⟩])
  (.seq (.ops [⟨.mv, [.t 0], (some 4), none⟩,
    ⟨(.cvI .u64), [.t 4], (some 5), none⟩,
    ⟨(.call 89), [.t 5], (some 6), none⟩,
    ⟨.mv, [.t 6], (some 3), none⟩])
  (.seq (.ops [⟨.mv, [.t 3], (some 7), none⟩,
    ⟨.len, [.t 7], (some 8), none⟩,
    ⟨(.cvI .u8), [.t 8], (some 9), none⟩,
    ⟨(.bsl 1), [.t 9], (some 10), none⟩,
    ⟨.mv, [.t 3], (some 11), none⟩,
    ⟨(.app 1 1), [.t 10, .t 11], (some 12), none⟩,
    ⟨.mv, [.t 12], (some 2), none⟩])
  .ret)))
theorem fn59 : fnOf Try.prog 59 = some (13, [.t 2], ir59) := by kernel_rfl
def ir89 : C :=
  (.seq (.ops [⟨.mv, [.c (.pv (.sl true 0 []))], (some 2), none⟩])
  (.seq (.ops [⟨(.bsl 1), [], (some 6), none⟩,
    ⟨.mv, [.t 6], (some 3), none⟩])
  (.seq (.seq (.ops [⟨.mv, [.c (.pv (.i .i64 56))], (some 4), none⟩])
  (.block 0 (.loop (.seq (.seq (.ops [⟨.mv, [.t 4], (some 7), none⟩,
        ⟨(.bin .geq), [.t 7, .c (.pv (.i .i64 0))], (some 8), none⟩])
      (.ite (.t 8) .skip
        (.exit 0)))
      (.seq (.block 1 (.seq (.ops [⟨.mv, [.t 0], (some 11), none⟩,
          ⟨.mv, [.t 4], (some 12), none⟩,
          ⟨(.bin .shr), [.t 11, .t 12], (some 13), none⟩,
          ⟨(.cvI .u8), [.t 13], (some 14), none⟩,
          ⟨.mv, [.t 14], (some 5), none⟩])
        (.seq (.ops [⟨.mv, [.t 5], (some 15), none⟩,
          ⟨(.bin .neq), [.t 15, .c (.pv (.i .u8 0))], (some 16), none⟩,
          ⟨.mv, [.t 16], (some 17), none⟩,
          ⟨.mv, [.t 3], (some 18), (some (17, false))⟩,
          ⟨.len, [.t 18], (some 19), (some (17, false))⟩,
          ⟨(.bin .gtr), [.t 19, .c (.pv (.i .i64 0))], (some 20), (some (17, false))⟩,
          ⟨.pick, [.t 17, .c (.pv (.b true)), .t 20], (some 21), none⟩])
        (.ite (.t 21) (.ops [⟨.mv, [.t 3], (some 22), none⟩,
            ⟨.mv, [.t 5], (some 23), none⟩,
            ⟨(.bsl 1), [.t 23], (some 24), none⟩,
            ⟨(.app 1 1), [.t 22, .t 24], (some 25), none⟩,
            ⟨.mv, [.t 25], (some 3), none⟩])
          .skip))))
      (.ops [⟨.mv, [.t 4], (some 9), none⟩,
        ⟨(.bin .sub), [.t 9, .c (.pv (.i .i64 8))], (some 10), none⟩,
        ⟨.mv, [.t 10], (some 4), none⟩]))))))
  (.seq (.ops [⟨.mv, [.t 3], (some 26), none⟩,
    ⟨.mv, [.t 26], (some 2), none⟩])
  .ret))))
theorem fn89 : fnOf Try.prog 89 = some (27, [.t 2], ir89) := by kernel_rfl
def ir98 : C :=
  (.seq (.ops [⟨.mv, [.c (.pv (.s []))], (some 2), none⟩])
  (.seq (.seq (.ops [⟨.mv, [.t 0], (some 3), none⟩,
    ⟨(.bin .eql), [.t 3, .c (.pv (.i .u64 0))], (some 4), none⟩])
  (.ite (.t 4) (.seq (.ops [⟨.mv, [.c (.pv (.s []))], (some 2), none⟩])
    .ret)
    .skip))
  (.seq (.any [7, 11] [(⟨.mv, [.t 0], (some 5), none⟩, 0, [7, 11]),
    (⟨(.bin .quo), [.t 5, .c (.pv (.i .u64 256))], (some 6), none⟩, 0, [7, 11]),
    (⟨(.call 98), [.t 6], (some 7), none⟩, 1, [7, 11]),
    (⟨.mv, [.t 0], (some 8), none⟩, 0, [7, 11]),
    (⟨(.bin .rem), [.t 8, .c (.pv (.i .u64 256))], (some 9), none⟩, 0, [7, 11]),
    (⟨(.cvI .u8), [.t 9], (some 10), none⟩, 0, [7, 11]),
    (⟨(.bsl 1), [.t 10], (some 11), none⟩, 1, [7, 11]),
    (⟨.b2s, [.t 11], (some 12), none⟩, 1, [7]),
    (⟨(.bin .add), [.t 7, .t 12], (some 13), none⟩, 0, [11]),
    (⟨.mv, [.t 13], (some 2), none⟩, 0, [])])
  .ret)))
theorem fn98 : fnOf Try.prog 98 = some (14, [.t 2], ir98) := by kernel_rfl
def ir99 : C :=
  (.seq (.ops [⟨.box, [.t 0], (some 2), none⟩,
    ⟨.box, [.t 1], (some 3), none⟩,
    ⟨.mv, [.c (.pv (.s []))], (some 4), none⟩])
  (.seq (.ops [⟨.mv, [.c (.pv (.i .u8 0))], (some 5), none⟩,
    ⟨.mv, [.c (.pv (.i .u8 0))], (some 6), none⟩,
    ⟨.mv, [.c (.pv (.s []))], (some 7), none⟩])
  (.seq (.seq (.ops [⟨.mv, [.c (.pv (.i .i64 0))], (some 8), none⟩])
  (.block 0 (.loop (.seq (.seq (.ops [⟨.mv, [.t 8], (some 11), none⟩,
        ⟨(.bin .lss), [.t 11, .c (.pv (.i .i64 8))], (some 12), none⟩])
      (.ite (.t 12) .skip
        (.exit 0)))
      (.seq (.block 1 (.seq (.any [] [(⟨.mv, [.t 8], (some 15), none⟩, 0, []),
          (⟨(.iaA 8 1), [.t 2, .t 15], (some 16), none⟩, 0, []),
          (⟨(.ld 1 false), [.t 16], (some 17), none⟩, 1, []),
          (⟨(.cvI .i64), [.t 17], (some 18), none⟩, 0, []),
          (⟨.mv, [.t 8], (some 19), none⟩, 0, []),
          (⟨(.iaA 8 1), [.t 3, .t 19], (some 20), none⟩, 0, []),
          (⟨(.ld 1 false), [.t 20], (some 21), none⟩, 1, []),
          (⟨(.cvI .i64), [.t 21], (some 22), none⟩, 0, []),
          (⟨(.bin .sub), [.t 18, .t 22], (some 23), none⟩, 0, []),
          (⟨.mv, [.t 23], (some 9), none⟩, 0, [])])
        (.seq (.seq (.ops [⟨.mv, [.t 9], (some 24), none⟩,
          ⟨(.bin .gtr), [.t 24, .c (.pv (.i .i64 0))], (some 25), none⟩])
        (.ite (.t 25) (.ops [⟨.mv, [.t 5], (some 26), none⟩,
            ⟨.mv, [.t 8], (some 27), none⟩,
            ⟨(.call 123), [.t 27], (some 28), none⟩,
            ⟨(.bin .add), [.t 26, .t 28], (some 29), none⟩,
            ⟨.mv, [.t 29], (some 5), none⟩])
          .skip))
        (.seq (.seq (.ops [⟨.mv, [.t 9], (some 30), none⟩,
          ⟨(.bin .lss), [.t 30, .c (.pv (.i .i64 0))], (some 31), none⟩])
        (.ite (.t 31) (.seq (.ops [⟨.mv, [.t 6], (some 32), none⟩,
            ⟨.mv, [.t 8], (some 33), none⟩,
            ⟨(.call 123), [.t 33], (some 34), none⟩,
            ⟨(.bin .add), [.t 32, .t 34], (some 35), none⟩,
            ⟨.mv, [.t 35], (some 6), none⟩])
          (.ops [⟨.mv, [.t 9], (some 36), none⟩,
            ⟨(.un .neg), [.t 36], (some 37), none⟩,
            ⟨.mv, [.t 37], (some 9), none⟩]))
          .skip))
        (.seq (.ops [⟨.mv, [.t 9], (some 38), none⟩,
          ⟨(.bin .neq), [.t 38, .c (.pv (.i .i64 0))], (some 39), none⟩])
        (.ite (.t 39) (.seq (.ops [⟨.mv, [.t 9], (some 40), none⟩,
            ⟨(.cvI .u64), [.t 40], (some 41), none⟩,
            ⟨(.call 98), [.t 41], (some 42), none⟩,
            ⟨.mv, [.t 42], (some 10), none⟩])
          (.ops [⟨.mv, [.t 7], (some 43), none⟩,
            ⟨.mv, [.t 10], (some 44), none⟩,
            ⟨.lenS, [.t 44], (some 45), none⟩,
            ⟨(.cvI .u8), [.t 45], (some 46), none⟩,
            ⟨(.bsl 1), [.t 46], (some 47), none⟩,
            ⟨.b2s, [.t 47], (some 48), none⟩,
            ⟨.mv, [.t 10], (some 49), none⟩,
            ⟨(.bin .add), [.t 48, .t 49], (some 50), none⟩,
            ⟨(.bin .add), [.t 43, .t 50], (some 51), none⟩,
            ⟨.mv, [.t 51], (some 7), none⟩]))
          .skip))))))
      (.ops [⟨.mv, [.t 8], (some 13), none⟩,
        ⟨(.bin .add), [.t 13, .c (.pv (.i .i64 1))], (some 14), none⟩,
        ⟨.mv, [.t 14], (some 8), none⟩]))))))
  (.seq (.ops [⟨.mv, [.t 5], (some 52), none⟩,
    ⟨.mv, [.t 6], (some 53), none⟩,
    ⟨(.bsl 1), [.t 52, .t 53], (some 54), none⟩,
    ⟨.b2s, [.t 54], (some 55), none⟩,
    ⟨.mv, [.t 7], (some 56), none⟩,
    ⟨(.bin .add), [.t 55, .t 56], (some 57), none⟩,
    ⟨.mv, [.t 57], (some 4), none⟩])
  .ret))))
theorem fn99 : fnOf Try.prog 99 = some (58, [.t 4], ir99) := by kernel_rfl
def ir112 : C :=
  (.seq (.ops [⟨.mv, [.c (.pv (.i .u64 0))], (some 2), none⟩,
    ⟨.mv, [.c (.pv (.i .i64 0))], (some 3), none⟩])
  (.seq (.block 0 (.seq (.ops [⟨.mv, [.t 0], (some 8), none⟩,
      ⟨.len, [.t 8], (some 9), none⟩,
      ⟨(.bin .gtr), [.t 9, .c (.pv (.i .i64 8))], (some 10), none⟩,
      ⟨.mv, [.t 10], (some 7), none⟩])
    (.ite (.t 7) (.seq (.ops [⟨.mv, [.c (.pv (.i .u64 0))], (some 2), none⟩,
        ⟨.mv, [.c (.pv (.i .i64 4))], (some 3), none⟩])
      .ret)
      (.seq (.ops [⟨.mv, [.t 0], (some 12), none⟩,
        ⟨.len, [.t 12], (some 13), none⟩,
        ⟨(.bin .gtr), [.t 13, .c (.pv (.i .i64 0))], (some 14), none⟩,
        ⟨.mv, [.t 14], (some 15), none⟩,
        ⟨.mv, [.t 0], (some 16), (some (15, true))⟩,
        ⟨(.iaS 1), [.t 16, .c (.pv (.i .i64 0))], (some 17), (some (15, true))⟩,
        ⟨(.ld 1 false), [.t 17], (some 18), (some (15, true))⟩,
        ⟨(.bin .eql), [.t 18, .c (.pv (.i .u8 0))], (some 19), (some (15, true))⟩,
        ⟨.pick, [.t 15, .t 19, .c (.pv (.b false))], (some 20), none⟩,
        ⟨.mv, [.t 20], (some 11), none⟩])
      (.ite (.t 11) (.seq (.ops [⟨.mv, [.c (.pv (.i .u64 0))], (some 2), none⟩,
          ⟨.mv, [.c (.pv (.i .i64 7))], (some 3), none⟩])
        .ret)
        .skip)))))
  (.seq (.ops [⟨.mv, [.c (.pv (.i .u64 0))], (some 4), none⟩])
  (.seq (.seq (.ops [⟨.mv, [.t 0], (some 21), none⟩,
    ⟨.len, [.t 21], (some 22), none⟩,
    ⟨.mv, [.c (.pv (.i .i64 0))], (some 23), none⟩])
  (.block 1 (.loop (.seq (.ops [⟨(.bin .lss), [.t 23, .t 22], (some 24), none⟩])
      (.seq (.ite (.t 24) .skip
        (.exit 1))
      (.seq (.block 2 (.seq (.ops [⟨(.iaS 1), [.t 21, .t 23], (some 25), none⟩,
          ⟨(.ld 1 false), [.t 25], (some 26), none⟩,
          ⟨.mv, [.t 26], (some 6), none⟩])
        (.ops [⟨.mv, [.t 4], (some 27), none⟩,
          ⟨(.bin .shl), [.t 27, .c (.pv (.i .u64 8))], (some 28), none⟩,
          ⟨.mv, [.t 6], (some 29), none⟩,
          ⟨(.cvI .u64), [.t 29], (some 30), none⟩,
          ⟨(.bin .or), [.t 28, .t 30], (some 31), none⟩,
          ⟨.mv, [.t 31], (some 4), none⟩])))
      (.ops [⟨(.bin .add), [.t 23, .c (.pv (.i .i64 1))], (some 32), none⟩,
        ⟨.mv, [.t 32], (some 23), none⟩])))))))
  (.seq (.ops [⟨.mv, [.t 4], (some 33), none⟩,
    ⟨.mv, [.t 33], (some 2), none⟩,
    ⟨.mv, [.c (.pv (.i .i64 0))], (some 3), none⟩])
  .ret)))))
theorem fn112 : fnOf Try.prog 112 = some (34, [.t 2, .t 3], ir112) := by kernel_rfl
def ir123 : C :=
  (.seq (.ops [⟨.mv, [.c (.pv (.i .u8 0))], (some 2), none⟩])
  (.seq (.ops [⟨.mv, [.c (.pv (.i .u8 1))], (some 3), none⟩])
  (.seq (.seq (.ops [⟨.mv, [.c (.pv (.i .i64 0))], (some 4), none⟩])
  (.block 0 (.loop (.seq (.seq (.ops [⟨.mv, [.t 4], (some 5), none⟩,
        ⟨.mv, [.t 0], (some 6), none⟩,
        ⟨(.bin .lss), [.t 5, .t 6], (some 7), none⟩])
      (.ite (.t 7) .skip
        (.exit 0)))
      (.seq (.block 1 (.ops [⟨.mv, [.t 3], (some 10), none⟩,
          ⟨(.bin .mul), [.t 10, .c (.pv (.i .u8 2))], (some 11), none⟩,
          ⟨.mv, [.t 11], (some 3), none⟩]))
      (.ops [⟨.mv, [.t 4], (some 8), none⟩,
        ⟨(.bin .add), [.t 8, .c (.pv (.i .i64 1))], (some 9), none⟩,
        ⟨.mv, [.t 9], (some 4), none⟩]))))))
  (.seq (.ops [⟨.mv, [.t 3], (some 12), none⟩,
    ⟨.mv, [.t 12], (some 2), none⟩])
  .ret))))
theorem fn123 : fnOf Try.prog 123 = some (13, [.t 2], ir123) := by kernel_rfl
end Go.Proofs.Ytmeecblciegkkaa.Fw
