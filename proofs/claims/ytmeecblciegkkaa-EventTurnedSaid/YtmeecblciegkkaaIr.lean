/- The functions of the program in the small language, each checked against the program. -/
import Derived.Test.YtmeecblciegkkaaFwD
import Derived.Test.YtmeecblciegkkaaProg
import Derived.ProofKit
set_option linter.unusedVariables false
set_option linter.unusedSimpArgs false
set_option linter.unusedSectionVars false
set_option maxRecDepth 100000
namespace Go.Proofs.Ytmeecblciegkkaa.Fw
open Go.Proofs
theorem mixed : Try.prog.follows .mixedOrders = true := by kernel_rfl
def ir12 : C :=
  (.seq (.ops [⟨.box, [.t 0], (some 3), none⟩,
    ⟨.mv, [.c (.pv (.b false))], (some 6), none⟩])
  (.seq (.seq (.ops [⟨(.call 38), [], (some 10), none⟩,
    ⟨(.un .not), [.t 10], (some 11), none⟩,
    ⟨.mv, [.t 11], (some 12), none⟩,
    ⟨(.ld 21 true), [.t 3], (some 13), (some (12, false))⟩,
    ⟨(.call 39), [.t 13], (some 14), (some (12, false))⟩,
    ⟨(.un .not), [.t 14], (some 15), (some (12, false))⟩,
    ⟨.pick, [.t 12, .c (.pv (.b true)), .t 15], (some 16), none⟩,
    ⟨.mv, [.t 16], (some 17), none⟩,
    ⟨.mv, [.t 2], (some 18), (some (17, false))⟩,
    ⟨(.bin .eql), [.t 18, .c (.pv (.i .u8 0))], (some 19), (some (17, false))⟩,
    ⟨.pick, [.t 17, .c (.pv (.b true)), .t 19], (some 20), none⟩,
    ⟨.mv, [.t 20], (some 21), none⟩,
    ⟨(.ld 21 true), [.t 3], (some 22), (some (21, false))⟩,
    ⟨(.call 41), [.t 22], (some 23), (some (21, false))⟩,
    ⟨(.un .not), [.t 23], (some 24), (some (21, false))⟩,
    ⟨.pick, [.t 21, .c (.pv (.b true)), .t 24], (some 25), none⟩])
  (.ite (.t 25) (.seq (.ops [⟨(.call 38), [], (some 26), none⟩,
      ⟨.mv, [.t 26], (some 6), none⟩])
    .ret)
    .skip))
  (.seq (.ops [⟨(.ld 21 true), [.t 3], (some 28), none⟩,
    ⟨(.call 44), [.t 28], (some 29), none⟩,
    ⟨.mv, [.t 29], (some 27), none⟩,
    ⟨(.ext 0), [.t 27], (some 30), none⟩,
    ⟨(.ext 1), [.t 27], (some 31), none⟩,
    ⟨.mv, [.t 30], (some 7), none⟩,
    ⟨.mv, [.t 31], (some 8), none⟩])
  (.seq (.seq (.ops [⟨.mv, [.t 8], (some 32), none⟩,
    ⟨(.bin .neq), [.t 32, .c (.pv (.i .i64 0))], (some 33), none⟩,
    ⟨.mv, [.t 33], (some 34), none⟩,
    ⟨.mv, [.t 7], (some 35), (some (34, false))⟩,
    ⟨.len, [.t 35], (some 36), (some (34, false))⟩,
    ⟨(.bin .eql), [.t 36, .c (.pv (.i .i64 0))], (some 37), (some (34, false))⟩,
    ⟨.pick, [.t 34, .c (.pv (.b true)), .t 37], (some 38), none⟩])
  (.ite (.t 38) (.seq (.ops [⟨.mv, [.c (.pv (.b false))], (some 6), none⟩])
    .ret)
    .skip))
  (.seq (.ops [⟨.mv, [.t 7], (some 39), none⟩,
    ⟨.mv, [.t 1], (some 40), none⟩,
    ⟨(.cvI .u64), [.t 40], (some 41), none⟩,
    ⟨.mv, [.t 7], (some 42), none⟩,
    ⟨.len, [.t 42], (some 43), none⟩,
    ⟨(.cvI .u64), [.t 43], (some 44), none⟩,
    ⟨(.bin .rem), [.t 41, .t 44], (some 45), none⟩,
    ⟨(.cvI .i64), [.t 45], (some 46), none⟩,
    ⟨(.iaS 1), [.t 39, .t 46], (some 47), none⟩,
    ⟨(.ld 1 false), [.t 47], (some 48), none⟩,
    ⟨.mv, [.t 2], (some 49), none⟩,
    ⟨(.bin .xor), [.t 48, .t 49], (some 50), none⟩,
    ⟨(.iaS 1), [.t 39, .t 46], (some 51), none⟩,
    ⟨(.sto 1), [.t 51, .t 50], none, none⟩])
  (.seq (.ops [⟨.mv, [.t 7], (some 53), none⟩,
    ⟨(.call 45), [.t 53], (some 54), none⟩,
    ⟨.mv, [.t 54], (some 52), none⟩,
    ⟨(.ext 0), [.t 52], (some 55), none⟩,
    ⟨(.ext 1), [.t 52], (some 56), none⟩,
    ⟨(.new (.agg [.pv (.i .i64 0), .pv (.i .u32 0), .vec 8 (List.replicate 8 (.i .u32 0)), .pv (.i .i64 0), .pv (.i .i64 0), .pv (.i .u32 0), .pv (.i .i64 0), .pv (.i .u32 0), .pv (.s []), .pv (.sl true 0 []), .pv (.sl true 0 []), .pv (.i .i64 0), .pv (.s []), .pv (.i .i64 0)])), [], (some 9), none⟩,
    ⟨(.sto 21), [.t 9, .t 55], none, none⟩,
    ⟨.mv, [.t 56], (some 8), none⟩])
  (.seq (.seq (.ops [⟨.mv, [.t 8], (some 57), none⟩,
    ⟨(.bin .neq), [.t 57, .c (.pv (.i .i64 0))], (some 58), none⟩])
  (.ite (.t 58) (.seq (.ops [⟨(.ld 21 true), [.t 9], (some 59), none⟩,
      ⟨(.bld [2, 8, 1, 2, 2, 1, 1, 1, 1, 1, 1]), [.c (.agg [.pv (.i .i64 0), .pv (.i .u32 0)]), .c (.vec 8 (List.replicate 8 (.i .u32 0))), .c (.pv (.i .i64 0)), .c (.agg [.pv (.i .i64 0), .pv (.i .u32 0)]), .c (.agg [.pv (.i .i64 0), .pv (.i .u32 0)]), .c (.pv (.s [])), .c (.pv (.sl true 0 [])), .c (.pv (.sl true 0 [])), .c (.pv (.i .i64 0)), .c (.pv (.s [])), .c (.pv (.i .i64 0))], (some 60), none⟩,
      ⟨(.call 47), [.t 59, .t 60], (some 61), none⟩,
      ⟨.mv, [.t 61], (some 6), none⟩])
    .ret)
    .skip))
  (.seq (.ops [⟨(.ld 21 true), [.t 9], (some 62), none⟩,
    ⟨(.ld 21 true), [.t 3], (some 63), none⟩,
    ⟨(.call 47), [.t 62, .t 63], (some 64), none⟩,
    ⟨(.un .not), [.t 64], (some 65), none⟩,
    ⟨.mv, [.t 65], (some 66), none⟩,
    ⟨(.ld 21 true), [.t 9], (some 67), (some (66, true))⟩,
    ⟨(.call 40), [.t 67], (some 68), (some (66, true))⟩,
    ⟨.pick, [.t 66, .t 68, .c (.pv (.b false))], (some 69), none⟩,
    ⟨.mv, [.t 69], (some 6), none⟩])
  .ret))))))))
theorem fn12 : fnOf Try.prog 12 = some (70, [.t 6], ir12) := by kernel_rfl
def ir15 : C :=
  (.seq (.ops [⟨.mv, [.c (.pv (.i .i64 0))], (some 4), none⟩,
    ⟨.mv, [.c (.pv (.i .i64 0))], (some 5), none⟩])
  (.seq (.ops [⟨.mv, [.t 0], (some 13), none⟩,
    ⟨(.call 58), [.t 13], (some 14), none⟩,
    ⟨.mv, [.t 14], (some 12), none⟩,
    ⟨(.ext 0), [.t 12], (some 15), none⟩,
    ⟨(.ext 1), [.t 12], (some 16), none⟩,
    ⟨(.new (.vec 8 (List.replicate 8 (.i .i64 0)))), [], (some 6), none⟩,
    ⟨(.sto 8), [.t 6, .t 15], none, none⟩,
    ⟨.mv, [.t 16], (some 7), none⟩])
  (.seq (.seq (.ops [⟨.mv, [.t 7], (some 17), none⟩,
    ⟨(.bin .neq), [.t 17, .c (.pv (.i .i64 0))], (some 18), none⟩])
  (.ite (.t 18) (.seq (.ops [⟨.mv, [.t 7], (some 19), none⟩,
      ⟨.mv, [.c (.pv (.i .i64 0))], (some 4), none⟩,
      ⟨.mv, [.t 19], (some 5), none⟩])
    .ret)
    .skip))
  (.seq (.ops [⟨.mv, [.t 1], (some 21), none⟩,
    ⟨(.call 58), [.t 21], (some 22), none⟩,
    ⟨.mv, [.t 22], (some 20), none⟩,
    ⟨(.ext 0), [.t 20], (some 23), none⟩,
    ⟨(.ext 1), [.t 20], (some 24), none⟩,
    ⟨(.new (.vec 8 (List.replicate 8 (.i .i64 0)))), [], (some 8), none⟩,
    ⟨(.sto 8), [.t 8, .t 23], none, none⟩,
    ⟨.mv, [.t 24], (some 7), none⟩])
  (.seq (.seq (.ops [⟨.mv, [.t 7], (some 25), none⟩,
    ⟨(.bin .neq), [.t 25, .c (.pv (.i .i64 0))], (some 26), none⟩])
  (.ite (.t 26) (.seq (.ops [⟨.mv, [.t 7], (some 27), none⟩,
      ⟨.mv, [.c (.pv (.i .i64 0))], (some 4), none⟩,
      ⟨.mv, [.t 27], (some 5), none⟩])
    .ret)
    .skip))
  (.seq (.ops [⟨.mv, [.c (.pv (.b false))], (some 9), none⟩,
    ⟨.mv, [.c (.pv (.b false))], (some 10), none⟩])
  (.seq (.seq (.ops [⟨.mv, [.c (.pv (.i .i64 0))], (some 28), none⟩])
  (.block 0 (.loop (.seq (.ops [⟨(.bin .lss), [.t 28, .c (.pv (.i .i64 8))], (some 29), none⟩])
      (.seq (.ite (.t 29) .skip
        (.exit 0))
      (.seq (.block 1 (.seq (.ops [⟨.mv, [.t 28], (some 30), none⟩,
          ⟨.mv, [.t 30], (some 11), none⟩])
        (.any [] [(⟨.mv, [.t 9], (some 31), none⟩, 0, []),
          (⟨.mv, [.t 31], (some 32), none⟩, 0, []),
          (⟨.mv, [.t 11], (some 33), (some (32, false))⟩, 0, []),
          (⟨(.iaA 8 1), [.t 6, .t 33], (some 34), (some (32, false))⟩, 0, []),
          (⟨(.ld 1 false), [.t 34], (some 35), (some (32, false))⟩, 1, []),
          (⟨.mv, [.t 11], (some 36), (some (32, false))⟩, 0, []),
          (⟨(.iaA 8 1), [.t 8, .t 36], (some 37), (some (32, false))⟩, 0, []),
          (⟨(.ld 1 false), [.t 37], (some 38), (some (32, false))⟩, 1, []),
          (⟨(.bin .lss), [.t 35, .t 38], (some 39), (some (32, false))⟩, 0, []),
          (⟨.pick, [.t 32, .c (.pv (.b true)), .t 39], (some 40), none⟩, 0, []),
          (⟨.mv, [.t 10], (some 41), none⟩, 0, []),
          (⟨.mv, [.t 41], (some 42), none⟩, 0, []),
          (⟨.mv, [.t 11], (some 43), (some (42, false))⟩, 0, []),
          (⟨(.iaA 8 1), [.t 6, .t 43], (some 44), (some (42, false))⟩, 0, []),
          (⟨(.ld 1 false), [.t 44], (some 45), (some (42, false))⟩, 1, []),
          (⟨.mv, [.t 11], (some 46), (some (42, false))⟩, 0, []),
          (⟨(.iaA 8 1), [.t 8, .t 46], (some 47), (some (42, false))⟩, 0, []),
          (⟨(.ld 1 false), [.t 47], (some 48), (some (42, false))⟩, 1, []),
          (⟨(.bin .gtr), [.t 45, .t 48], (some 49), (some (42, false))⟩, 0, []),
          (⟨.pick, [.t 42, .c (.pv (.b true)), .t 49], (some 50), none⟩, 0, []),
          (⟨.mv, [.t 40], (some 9), none⟩, 0, []),
          (⟨.mv, [.t 50], (some 10), none⟩, 0, [])])))
      (.ops [⟨(.bin .add), [.t 28, .c (.pv (.i .i64 1))], (some 51), none⟩,
        ⟨.mv, [.t 51], (some 28), none⟩])))))))
  (.seq (.block 2 (.seq (.ops [⟨.mv, [.t 9], (some 53), none⟩,
      ⟨.mv, [.t 53], (some 54), none⟩,
      ⟨.mv, [.t 10], (some 55), (some (54, true))⟩,
      ⟨.pick, [.t 54, .t 55, .c (.pv (.b false))], (some 56), none⟩,
      ⟨.mv, [.t 56], (some 52), none⟩])
    (.ite (.t 52) (.seq (.ops [⟨.mv, [.c (.pv (.i .i64 2))], (some 4), none⟩,
        ⟨.mv, [.c (.pv (.i .i64 0))], (some 5), none⟩])
      .ret)
      (.seq (.ops [⟨.mv, [.t 9], (some 58), none⟩,
        ⟨.mv, [.t 58], (some 57), none⟩])
      (.ite (.t 57) (.seq (.ops [⟨.mv, [.c (.pv (.i .i64 (-1)))], (some 4), none⟩,
          ⟨.mv, [.c (.pv (.i .i64 0))], (some 5), none⟩])
        .ret)
        (.seq (.ops [⟨.mv, [.t 10], (some 60), none⟩,
          ⟨.mv, [.t 60], (some 59), none⟩])
        (.ite (.t 59) (.seq (.ops [⟨.mv, [.c (.pv (.i .i64 1))], (some 4), none⟩,
            ⟨.mv, [.c (.pv (.i .i64 0))], (some 5), none⟩])
          .ret)
          .skip)))))))
  (.seq (.ops [⟨.mv, [.c (.pv (.i .i64 0))], (some 4), none⟩,
    ⟨.mv, [.c (.pv (.i .i64 0))], (some 5), none⟩])
  .ret)))))))))
theorem fn15 : fnOf Try.prog 15 = some (61, [.t 4, .t 5], ir15) := by kernel_rfl
def ir16 : C :=
  (.seq (.ops [⟨.box, [.t 0], (some 2), none⟩,
    ⟨.box, [.t 1], (some 3), none⟩,
    ⟨.mv, [.c (.pv (.sl true 0 []))], (some 4), none⟩])
  (.seq (.ops [⟨.mv, [.c (.pv (.i .u8 0))], (some 5), none⟩,
    ⟨.mv, [.c (.pv (.i .u8 0))], (some 6), none⟩])
  (.seq (.ops [⟨.mv, [.c (.pv (.sl true 0 []))], (some 7), none⟩])
  (.seq (.seq (.ops [⟨(.ld 8 true), [.t 2], (some 10), none⟩,
    ⟨.mv, [.c (.pv (.i .i64 0))], (some 11), none⟩])
  (.block 0 (.loop (.seq (.ops [⟨(.bin .lss), [.t 11, .c (.pv (.i .i64 8))], (some 12), none⟩])
      (.seq (.ite (.t 12) .skip
        (.exit 0))
      (.seq (.block 1 (.seq (.ops [⟨.mv, [.t 11], (some 13), none⟩,
          ⟨(.ixA 8 1 false), [.t 10, .t 11], (some 14), none⟩,
          ⟨.mv, [.t 13], (some 8), none⟩,
          ⟨.mv, [.t 14], (some 9), none⟩])
        (.block 2 (.seq (.ops [⟨.mv, [.t 9], (some 16), none⟩,
            ⟨.mv, [.t 8], (some 17), none⟩,
            ⟨(.iaA 8 1), [.t 3, .t 17], (some 18), none⟩,
            ⟨(.ld 1 false), [.t 18], (some 19), none⟩,
            ⟨(.bin .gtr), [.t 16, .t 19], (some 20), none⟩,
            ⟨.mv, [.t 20], (some 15), none⟩])
          (.ite (.t 15) (.seq (.ops [⟨.mv, [.t 5], (some 21), none⟩,
              ⟨.mv, [.t 8], (some 22), none⟩,
              ⟨(.bin .shl), [.c (.pv (.i .u8 1)), .t 22], (some 23), none⟩,
              ⟨(.bin .or), [.t 21, .t 23], (some 24), none⟩,
              ⟨.mv, [.t 24], (some 5), none⟩])
            (.ops [⟨.mv, [.t 7], (some 25), none⟩,
              ⟨.mv, [.t 9], (some 26), none⟩,
              ⟨.mv, [.t 8], (some 27), none⟩,
              ⟨(.iaA 8 1), [.t 3, .t 27], (some 28), none⟩,
              ⟨(.ld 1 false), [.t 28], (some 29), none⟩,
              ⟨(.bin .sub), [.t 26, .t 29], (some 30), none⟩,
              ⟨(.call 59), [.t 30], (some 31), none⟩,
              ⟨(.app 1 1), [.t 25, .t 31], (some 32), none⟩,
              ⟨.mv, [.t 32], (some 7), none⟩]))
            (.seq (.ops [⟨.mv, [.t 9], (some 34), none⟩,
              ⟨.mv, [.t 8], (some 35), none⟩,
              ⟨(.iaA 8 1), [.t 3, .t 35], (some 36), none⟩,
              ⟨(.ld 1 false), [.t 36], (some 37), none⟩,
              ⟨(.bin .lss), [.t 34, .t 37], (some 38), none⟩,
              ⟨.mv, [.t 38], (some 33), none⟩])
            (.ite (.t 33) (.seq (.ops [⟨.mv, [.t 6], (some 39), none⟩,
                ⟨.mv, [.t 8], (some 40), none⟩,
                ⟨(.bin .shl), [.c (.pv (.i .u8 1)), .t 40], (some 41), none⟩,
                ⟨(.bin .or), [.t 39, .t 41], (some 42), none⟩,
                ⟨.mv, [.t 42], (some 6), none⟩])
              (.ops [⟨.mv, [.t 7], (some 43), none⟩,
                ⟨.mv, [.t 8], (some 44), none⟩,
                ⟨(.iaA 8 1), [.t 3, .t 44], (some 45), none⟩,
                ⟨(.ld 1 false), [.t 45], (some 46), none⟩,
                ⟨.mv, [.t 9], (some 47), none⟩,
                ⟨(.bin .sub), [.t 46, .t 47], (some 48), none⟩,
                ⟨(.call 59), [.t 48], (some 49), none⟩,
                ⟨(.app 1 1), [.t 43, .t 49], (some 50), none⟩,
                ⟨.mv, [.t 50], (some 7), none⟩]))
              .skip)))))))
      (.ops [⟨(.bin .add), [.t 11, .c (.pv (.i .i64 1))], (some 51), none⟩,
        ⟨.mv, [.t 51], (some 11), none⟩])))))))
  (.seq (.ops [⟨.mv, [.t 5], (some 52), none⟩,
    ⟨.mv, [.t 6], (some 53), none⟩,
    ⟨(.bsl 1), [.t 52, .t 53], (some 54), none⟩,
    ⟨.mv, [.t 7], (some 55), none⟩,
    ⟨(.app 1 1), [.t 54, .t 55], (some 56), none⟩,
    ⟨.mv, [.t 56], (some 4), none⟩])
  .ret)))))
theorem fn16 : fnOf Try.prog 16 = some (57, [.t 4], ir16) := by kernel_rfl
def ir17 : C :=
  (.seq (.ops [⟨.box, [.t 0], (some 2), none⟩,
    ⟨.box, [.t 1], (some 3), none⟩,
    ⟨.mv, [.c (.pv (.i .i64 0))], (some 4), none⟩])
  (.seq (.ops [⟨.mv, [.c (.pv (.b false))], (some 5), none⟩,
    ⟨.mv, [.c (.pv (.b false))], (some 6), none⟩])
  (.seq (.seq (.ops [⟨.mv, [.c (.pv (.i .i64 0))], (some 7), none⟩])
  (.block 0 (.loop (.seq (.seq (.ops [⟨.mv, [.t 7], (some 8), none⟩,
        ⟨(.bin .lss), [.t 8, .c (.pv (.i .i64 8))], (some 9), none⟩])
      (.ite (.t 9) .skip
        (.exit 0)))
      (.seq (.block 1 (.seq (.any [] [(⟨.mv, [.t 5], (some 12), none⟩, 0, []),
          (⟨.mv, [.t 12], (some 13), none⟩, 0, []),
          (⟨.mv, [.t 7], (some 14), (some (13, false))⟩, 0, []),
          (⟨(.iaA 8 1), [.t 2, .t 14], (some 15), (some (13, false))⟩, 0, []),
          (⟨(.ld 1 false), [.t 15], (some 16), (some (13, false))⟩, 1, []),
          (⟨.mv, [.t 7], (some 17), (some (13, false))⟩, 0, []),
          (⟨(.iaA 8 1), [.t 3, .t 17], (some 18), (some (13, false))⟩, 0, []),
          (⟨(.ld 1 false), [.t 18], (some 19), (some (13, false))⟩, 1, []),
          (⟨(.bin .lss), [.t 16, .t 19], (some 20), (some (13, false))⟩, 0, []),
          (⟨.pick, [.t 13, .c (.pv (.b true)), .t 20], (some 21), none⟩, 0, []),
          (⟨.mv, [.t 21], (some 5), none⟩, 0, [])])
        (.any [] [(⟨.mv, [.t 6], (some 22), none⟩, 0, []),
          (⟨.mv, [.t 22], (some 23), none⟩, 0, []),
          (⟨.mv, [.t 7], (some 24), (some (23, false))⟩, 0, []),
          (⟨(.iaA 8 1), [.t 2, .t 24], (some 25), (some (23, false))⟩, 0, []),
          (⟨(.ld 1 false), [.t 25], (some 26), (some (23, false))⟩, 1, []),
          (⟨.mv, [.t 7], (some 27), (some (23, false))⟩, 0, []),
          (⟨(.iaA 8 1), [.t 3, .t 27], (some 28), (some (23, false))⟩, 0, []),
          (⟨(.ld 1 false), [.t 28], (some 29), (some (23, false))⟩, 1, []),
          (⟨(.bin .gtr), [.t 26, .t 29], (some 30), (some (23, false))⟩, 0, []),
          (⟨.pick, [.t 23, .c (.pv (.b true)), .t 30], (some 31), none⟩, 0, []),
          (⟨.mv, [.t 31], (some 6), none⟩, 0, [])])))
      (.ops [⟨.mv, [.t 7], (some 10), none⟩,
        ⟨(.bin .add), [.t 10, .c (.pv (.i .i64 1))], (some 11), none⟩,
        ⟨.mv, [.t 11], (some 7), none⟩]))))))
  (.seq (.block 2 (.seq (.ops [⟨.mv, [.t 5], (some 33), none⟩,
      ⟨.mv, [.t 33], (some 34), none⟩,
      ⟨.mv, [.t 6], (some 35), (some (34, true))⟩,
      ⟨.pick, [.t 34, .t 35, .c (.pv (.b false))], (some 36), none⟩,
      ⟨.mv, [.t 36], (some 32), none⟩])
    (.ite (.t 32) (.seq (.ops [⟨.mv, [.c (.pv (.i .i64 2))], (some 4), none⟩])
      .ret)
      (.seq (.ops [⟨.mv, [.t 5], (some 38), none⟩,
        ⟨.mv, [.t 38], (some 37), none⟩])
      (.ite (.t 37) (.seq (.ops [⟨.mv, [.c (.pv (.i .i64 (-1)))], (some 4), none⟩])
        .ret)
        (.seq (.ops [⟨.mv, [.t 6], (some 40), none⟩,
          ⟨.mv, [.t 40], (some 39), none⟩])
        (.ite (.t 39) (.seq (.ops [⟨.mv, [.c (.pv (.i .i64 1))], (some 4), none⟩])
          .ret)
          .skip)))))))
  (.seq (.ops [⟨.mv, [.c (.pv (.i .i64 0))], (some 4), none⟩])
  .ret)))))
theorem fn17 : fnOf Try.prog 17 = some (41, [.t 4], ir17) := by kernel_rfl
def ir38 : C :=
  (.seq (.ops [⟨.mv, [.c (.pv (.b false))], (some 0), none⟩])
  (.seq (.ops [⟨(.bld [1, 1]), [.c (.pv (.i .i64 2)), .c (.pv (.i .u32 1))], (some 6), none⟩,
    ⟨(.bld [2, 8, 1, 2, 2, 1, 1, 1, 1, 1, 1]), [.t 6, .c (.vec 8 (List.replicate 8 (.i .u32 0))), .c (.pv (.i .i64 1)), .c (.agg [.pv (.i .i64 0), .pv (.i .u32 0)]), .c (.agg [.pv (.i .i64 0), .pv (.i .u32 0)]), .c (.pv (.s [97])), .c (.pv (.sl true 0 [])), .c (.pv (.sl true 0 [])), .c (.pv (.i .i64 0)), .c (.pv (.s [])), .c (.pv (.i .i64 0))], (some 7), none⟩,
    ⟨(.new (.agg [.pv (.i .i64 0), .pv (.i .u32 0), .vec 8 (List.replicate 8 (.i .u32 0)), .pv (.i .i64 0), .pv (.i .i64 0), .pv (.i .u32 0), .pv (.i .i64 0), .pv (.i .u32 0), .pv (.s []), .pv (.sl true 0 []), .pv (.sl true 0 []), .pv (.i .i64 0), .pv (.s []), .pv (.i .i64 0)])), [], (some 1), none⟩,
    ⟨(.sto 21), [.t 1, .t 7], none, none⟩])
  (.seq (.ops [⟨(.ld 21 true), [.t 1], (some 9), none⟩,
    ⟨(.call 44), [.t 9], (some 10), none⟩,
    ⟨.mv, [.t 10], (some 8), none⟩,
    ⟨(.ext 0), [.t 8], (some 11), none⟩,
    ⟨(.ext 1), [.t 8], (some 12), none⟩,
    ⟨.mv, [.t 11], (some 2), none⟩,
    ⟨.mv, [.t 12], (some 3), none⟩])
  (.seq (.ops [⟨.mv, [.t 2], (some 14), none⟩,
    ⟨(.call 45), [.t 14], (some 15), none⟩,
    ⟨.mv, [.t 15], (some 13), none⟩,
    ⟨(.ext 0), [.t 13], (some 16), none⟩,
    ⟨(.ext 1), [.t 13], (some 17), none⟩,
    ⟨(.new (.agg [.pv (.i .i64 0), .pv (.i .u32 0), .vec 8 (List.replicate 8 (.i .u32 0)), .pv (.i .i64 0), .pv (.i .i64 0), .pv (.i .u32 0), .pv (.i .i64 0), .pv (.i .u32 0), .pv (.s []), .pv (.sl true 0 []), .pv (.sl true 0 []), .pv (.i .i64 0), .pv (.s []), .pv (.i .i64 0)])), [], (some 4), none⟩,
    ⟨(.sto 21), [.t 4, .t 16], none, none⟩,
    ⟨.mv, [.t 17], (some 5), none⟩])
  (.seq (.ops [⟨(.ld 21 true), [.t 1], (some 18), none⟩,
    ⟨(.call 40), [.t 18], (some 19), none⟩,
    ⟨.mv, [.t 19], (some 20), none⟩,
    ⟨.mv, [.t 3], (some 21), (some (20, true))⟩,
    ⟨(.bin .eql), [.t 21, .c (.pv (.i .i64 0))], (some 22), (some (20, true))⟩,
    ⟨.pick, [.t 20, .t 22, .c (.pv (.b false))], (some 23), none⟩,
    ⟨.mv, [.t 23], (some 24), none⟩,
    ⟨.mv, [.t 5], (some 25), (some (24, true))⟩,
    ⟨(.bin .eql), [.t 25, .c (.pv (.i .i64 0))], (some 26), (some (24, true))⟩,
    ⟨.pick, [.t 24, .t 26, .c (.pv (.b false))], (some 27), none⟩,
    ⟨.mv, [.t 27], (some 28), none⟩,
    ⟨.mv, [.t 2], (some 29), (some (28, true))⟩,
    ⟨.b2s, [.t 29], (some 30), (some (28, true))⟩,
    ⟨(.bin .eql), [.t 30, .c (.pv (.s [1, 2, 1, 1, 2, 0, 0, 1, 1, 0, 0, 1, 97, 0, 0, 0, 0, 0]))], (some 31), (some (28, true))⟩,
    ⟨.pick, [.t 28, .t 31, .c (.pv (.b false))], (some 32), none⟩,
    ⟨.mv, [.t 32], (some 33), none⟩,
    ⟨(.ld 21 true), [.t 1], (some 34), (some (33, true))⟩,
    ⟨(.ld 21 true), [.t 4], (some 35), (some (33, true))⟩,
    ⟨(.call 48), [.t 34, .t 35], (some 36), (some (33, true))⟩,
    ⟨.pick, [.t 33, .t 36, .c (.pv (.b false))], (some 37), none⟩,
    ⟨.mv, [.t 37], (some 38), none⟩,
    ⟨(.call 42), [.c (.pv (.s [97, 46, 98]))], (some 39), (some (38, true))⟩,
    ⟨.pick, [.t 38, .t 39, .c (.pv (.b false))], (some 40), none⟩,
    ⟨.mv, [.t 40], (some 0), none⟩])
  .ret)))))
theorem fn38 : fnOf Try.prog 38 = some (41, [.t 0], ir38) := by kernel_rfl
def ir39 : C :=
  (.seq (.ops [⟨.box, [.t 0], (some 1), none⟩,
    ⟨.mv, [.c (.pv (.b false))], (some 2), none⟩])
  (.seq (.ops [⟨(.fa 15), [.t 1], (some 3), none⟩,
    ⟨(.ld 1 false), [.t 3], (some 4), none⟩,
    ⟨.lenS, [.t 4], (some 5), none⟩,
    ⟨(.bin .leq), [.t 5, .c (.pv (.i .i64 300))], (some 6), none⟩,
    ⟨.mv, [.t 6], (some 7), none⟩,
    ⟨(.fa 19), [.t 1], (some 8), (some (7, true))⟩,
    ⟨(.ld 1 false), [.t 8], (some 9), (some (7, true))⟩,
    ⟨.lenS, [.t 9], (some 10), (some (7, true))⟩,
    ⟨(.bin .leq), [.t 10, .c (.pv (.i .i64 600))], (some 11), (some (7, true))⟩,
    ⟨.pick, [.t 7, .t 11, .c (.pv (.b false))], (some 12), none⟩,
    ⟨.mv, [.t 12], (some 13), none⟩,
    ⟨(.fa 16), [.t 1], (some 14), (some (13, true))⟩,
    ⟨(.ld 1 false), [.t 14], (some 15), (some (13, true))⟩,
    ⟨.len, [.t 15], (some 16), (some (13, true))⟩,
    ⟨(.bin .leq), [.t 16, .c (.pv (.i .i64 30))], (some 17), (some (13, true))⟩,
    ⟨.pick, [.t 13, .t 17, .c (.pv (.b false))], (some 18), none⟩,
    ⟨.mv, [.t 18], (some 19), none⟩,
    ⟨(.fa 17), [.t 1], (some 20), (some (19, true))⟩,
    ⟨(.ld 1 false), [.t 20], (some 21), (some (19, true))⟩,
    ⟨.len, [.t 21], (some 22), (some (19, true))⟩,
    ⟨(.bin .leq), [.t 22, .c (.pv (.i .i64 30))], (some 23), (some (19, true))⟩,
    ⟨.pick, [.t 19, .t 23, .c (.pv (.b false))], (some 24), none⟩,
    ⟨.mv, [.t 24], (some 2), none⟩])
  .ret))
theorem fn39 : fnOf Try.prog 39 = some (25, [.t 2], ir39) := by kernel_rfl
def ir40 : C :=
  (.seq (.ops [⟨.box, [.t 0], (some 1), none⟩,
    ⟨.mv, [.c (.pv (.b false))], (some 2), none⟩])
  (.seq (.seq (.any [] [(⟨(.fa 0), [.t 1], (some 7), none⟩, 0, []),
    (⟨(.fa 0), [.t 7], (some 8), none⟩, 0, []),
    (⟨(.ld 1 false), [.t 8], (some 9), none⟩, 1, []),
    (⟨(.bin .lss), [.t 9, .c (.pv (.i .i64 1))], (some 10), none⟩, 0, []),
    (⟨.mv, [.t 10], (some 11), none⟩, 0, []),
    (⟨(.fa 0), [.t 1], (some 12), (some (11, false))⟩, 0, []),
    (⟨(.fa 0), [.t 12], (some 13), (some (11, false))⟩, 0, []),
    (⟨(.ld 1 false), [.t 13], (some 14), (some (11, false))⟩, 1, []),
    (⟨(.bin .gtr), [.t 14, .c (.pv (.i .i64 8))], (some 15), (some (11, false))⟩, 0, []),
    (⟨.pick, [.t 11, .c (.pv (.b true)), .t 15], (some 16), none⟩, 0, []),
    (⟨.mv, [.t 16], (some 17), none⟩, 0, []),
    (⟨(.fa 0), [.t 1], (some 18), (some (17, false))⟩, 0, []),
    (⟨(.fa 1), [.t 18], (some 19), (some (17, false))⟩, 0, []),
    (⟨(.ld 1 false), [.t 19], (some 20), (some (17, false))⟩, 1, []),
    (⟨(.bin .lss), [.t 20, .c (.pv (.i .u32 1))], (some 21), (some (17, false))⟩, 0, []),
    (⟨.pick, [.t 17, .c (.pv (.b true)), .t 21], (some 22), none⟩, 0, []),
    (⟨.mv, [.t 22], (some 23), none⟩, 0, []),
    (⟨(.fa 0), [.t 1], (some 24), (some (23, false))⟩, 0, []),
    (⟨(.fa 1), [.t 24], (some 25), (some (23, false))⟩, 0, []),
    (⟨(.ld 1 false), [.t 25], (some 26), (some (23, false))⟩, 1, []),
    (⟨(.bin .gtr), [.t 26, .c (.pv (.i .u32 1048576))], (some 27), (some (23, false))⟩, 0, []),
    (⟨.pick, [.t 23, .c (.pv (.b true)), .t 27], (some 28), none⟩, 0, []),
    (⟨.mv, [.t 28], (some 29), none⟩, 0, []),
    (⟨(.fa 0), [.t 1], (some 30), (some (29, false))⟩, 0, []),
    (⟨(.fa 0), [.t 30], (some 31), (some (29, false))⟩, 0, []),
    (⟨(.ld 1 false), [.t 31], (some 32), (some (29, false))⟩, 1, []),
    (⟨(.bin .sub), [.t 32, .c (.pv (.i .i64 1))], (some 33), (some (29, false))⟩, 0, []),
    (⟨(.fa 2), [.t 1], (some 34), (some (29, false))⟩, 0, []),
    (⟨(.iaA 8 1), [.t 34, .t 33], (some 35), (some (29, false))⟩, 0, []),
    (⟨(.ld 1 false), [.t 35], (some 36), (some (29, false))⟩, 1, []),
    (⟨(.fa 0), [.t 1], (some 37), (some (29, false))⟩, 0, []),
    (⟨(.fa 1), [.t 37], (some 38), (some (29, false))⟩, 0, []),
    (⟨(.ld 1 false), [.t 38], (some 39), (some (29, false))⟩, 1, []),
    (⟨(.bin .sub), [.t 39, .c (.pv (.i .u32 1))], (some 40), (some (29, false))⟩, 0, []),
    (⟨(.bin .neq), [.t 36, .t 40], (some 41), (some (29, false))⟩, 0, []),
    (⟨.pick, [.t 29, .c (.pv (.b true)), .t 41], (some 42), none⟩, 0, []),
    (⟨.mv, [.t 42], (some 43), none⟩, 0, []),
    (⟨(.fa 10), [.t 1], (some 44), (some (43, false))⟩, 0, []),
    (⟨(.ld 1 false), [.t 44], (some 45), (some (43, false))⟩, 1, []),
    (⟨(.bin .lss), [.t 45, .c (.pv (.i .i64 1))], (some 46), (some (43, false))⟩, 0, []),
    (⟨.pick, [.t 43, .c (.pv (.b true)), .t 46], (some 47), none⟩, 0, []),
    (⟨.mv, [.t 47], (some 48), none⟩, 0, []),
    (⟨(.fa 10), [.t 1], (some 49), (some (48, false))⟩, 0, []),
    (⟨(.ld 1 false), [.t 49], (some 50), (some (48, false))⟩, 1, []),
    (⟨(.bin .gtr), [.t 50, .c (.pv (.i .i64 9))], (some 51), (some (48, false))⟩, 0, []),
    (⟨.pick, [.t 48, .c (.pv (.b true)), .t 51], (some 52), none⟩, 0, [])])
  (.ite (.t 52) (.seq (.ops [⟨.mv, [.c (.pv (.b false))], (some 2), none⟩])
    .ret)
    .skip))
  (.seq (.seq (.ops [⟨(.fa 2), [.t 1], (some 53), none⟩,
    ⟨(.ld 8 true), [.t 53], (some 54), none⟩,
    ⟨.mv, [.c (.pv (.i .i64 0))], (some 55), none⟩])
  (.block 0 (.loop (.seq (.ops [⟨(.bin .lss), [.t 55, .c (.pv (.i .i64 8))], (some 56), none⟩])
      (.seq (.ite (.t 56) .skip
        (.exit 0))
      (.seq (.block 1 (.seq (.ops [⟨(.ixA 8 1 false), [.t 54, .t 55], (some 57), none⟩,
          ⟨.mv, [.t 57], (some 4), none⟩])
        (.seq (.ops [⟨.mv, [.t 4], (some 58), none⟩,
          ⟨(.bin .gtr), [.t 58, .c (.pv (.i .u32 1048576))], (some 59), none⟩])
        (.ite (.t 59) (.seq (.ops [⟨.mv, [.c (.pv (.b false))], (some 2), none⟩])
          .ret)
          .skip))))
      (.ops [⟨(.bin .add), [.t 55, .c (.pv (.i .i64 1))], (some 60), none⟩,
        ⟨.mv, [.t 60], (some 55), none⟩])))))))
  (.seq (.ops [⟨(.ld 21 true), [.t 1], (some 61), none⟩,
    ⟨(.call 78), [.t 61], (some 62), none⟩,
    ⟨(.new (.agg [.pv (.i .i64 0), .pv (.i .u32 0), .vec 8 (List.replicate 8 (.i .u32 0)), .pv (.i .i64 0), .pv (.i .i64 0), .pv (.i .u32 0), .pv (.i .i64 0), .pv (.i .u32 0), .pv (.s []), .pv (.sl true 0 []), .pv (.sl true 0 []), .pv (.i .i64 0), .pv (.s []), .pv (.i .i64 0)])), [], (some 5), none⟩,
    ⟨(.sto 21), [.t 5, .t 62], none, none⟩])
  (.seq (.seq (.ops [⟨(.fa 11), [.t 5], (some 63), none⟩,
    ⟨(.ld 2 true), [.t 63], (some 64), none⟩,
    ⟨(.bld [1, 1]), [.c (.pv (.i .i64 0)), .c (.pv (.i .u32 0))], (some 65), none⟩,
    ⟨(.eqv true [.int .i64, .int .u32]), [.t 64, .t 65], (some 66), none⟩,
    ⟨.mv, [.t 66], (some 67), none⟩,
    ⟨(.fa 13), [.t 5], (some 68), (some (67, false))⟩,
    ⟨(.ld 2 true), [.t 68], (some 69), (some (67, false))⟩,
    ⟨(.bld [1, 1]), [.c (.pv (.i .i64 0)), .c (.pv (.i .u32 0))], (some 70), (some (67, false))⟩,
    ⟨(.eqv true [.int .i64, .int .u32]), [.t 69, .t 70], (some 71), (some (67, false))⟩,
    ⟨.pick, [.t 67, .c (.pv (.b true)), .t 71], (some 72), none⟩,
    ⟨.mv, [.t 72], (some 73), none⟩,
    ⟨(.fa 15), [.t 5], (some 74), (some (73, false))⟩,
    ⟨(.ld 1 false), [.t 74], (some 75), (some (73, false))⟩,
    ⟨(.bin .neq), [.t 75, .c (.pv (.s []))], (some 76), (some (73, false))⟩,
    ⟨.pick, [.t 73, .c (.pv (.b true)), .t 76], (some 77), none⟩,
    ⟨.mv, [.t 77], (some 78), none⟩,
    ⟨(.fa 16), [.t 5], (some 79), (some (78, false))⟩,
    ⟨(.ld 1 false), [.t 79], (some 80), (some (78, false))⟩,
    ⟨.len, [.t 80], (some 81), (some (78, false))⟩,
    ⟨(.bin .gtr), [.t 81, .c (.pv (.i .i64 0))], (some 82), (some (78, false))⟩,
    ⟨.pick, [.t 78, .c (.pv (.b true)), .t 82], (some 83), none⟩,
    ⟨.mv, [.t 83], (some 84), none⟩,
    ⟨(.fa 17), [.t 5], (some 85), (some (84, false))⟩,
    ⟨(.ld 1 false), [.t 85], (some 86), (some (84, false))⟩,
    ⟨.len, [.t 86], (some 87), (some (84, false))⟩,
    ⟨(.bin .gtr), [.t 87, .c (.pv (.i .i64 0))], (some 88), (some (84, false))⟩,
    ⟨.pick, [.t 84, .c (.pv (.b true)), .t 88], (some 89), none⟩,
    ⟨.mv, [.t 89], (some 90), none⟩,
    ⟨(.fa 18), [.t 5], (some 91), (some (90, false))⟩,
    ⟨(.ld 1 false), [.t 91], (some 92), (some (90, false))⟩,
    ⟨(.bin .neq), [.t 92, .c (.pv (.i .i64 0))], (some 93), (some (90, false))⟩,
    ⟨.pick, [.t 90, .c (.pv (.b true)), .t 93], (some 94), none⟩,
    ⟨.mv, [.t 94], (some 95), none⟩,
    ⟨(.fa 19), [.t 5], (some 96), (some (95, false))⟩,
    ⟨(.ld 1 false), [.t 96], (some 97), (some (95, false))⟩,
    ⟨(.bin .neq), [.t 97, .c (.pv (.s []))], (some 98), (some (95, false))⟩,
    ⟨.pick, [.t 95, .c (.pv (.b true)), .t 98], (some 99), none⟩,
    ⟨.mv, [.t 99], (some 100), none⟩,
    ⟨(.fa 20), [.t 5], (some 101), (some (100, false))⟩,
    ⟨(.ld 1 false), [.t 101], (some 102), (some (100, false))⟩,
    ⟨(.bin .neq), [.t 102, .c (.pv (.i .i64 0))], (some 103), (some (100, false))⟩,
    ⟨.pick, [.t 100, .c (.pv (.b true)), .t 103], (some 104), none⟩])
  (.ite (.t 104) (.seq (.ops [⟨.mv, [.c (.pv (.b false))], (some 2), none⟩])
    .ret)
    .skip))
  (.seq (.ops [⟨.mv, [.c (.fn (.func 79) [])], (some 6), none⟩])
  (.seq (.seq (.ops [⟨(.fa 10), [.t 1], (some 105), none⟩,
    ⟨(.ld 1 false), [.t 105], (some 106), none⟩])
  (.block 2 (.seq (.seq (.ops [⟨(.bin .eql), [.t 106, .c (.pv (.i .i64 1))], (some 108), none⟩,
      ⟨.mv, [.t 108], (some 107), none⟩])
    (.ite (.t 107) .skip
      (.ops [⟨(.bin .eql), [.t 106, .c (.pv (.i .i64 2))], (some 109), none⟩,
        ⟨.mv, [.t 109], (some 107), none⟩])))
    (.ite (.t 107) (.seq (.ops [⟨(.ld 21 true), [.t 1], (some 110), none⟩,
        ⟨(.call 80), [.t 110], (some 111), none⟩,
        ⟨.mv, [.t 111], (some 112), none⟩,
        ⟨(.fa 15), [.t 1], (some 113), (some (112, true))⟩,
        ⟨(.ld 1 false), [.t 113], (some 114), (some (112, true))⟩,
        ⟨(.call 42), [.t 114], (some 115), (some (112, true))⟩,
        ⟨.pick, [.t 112, .t 115, .c (.pv (.b false))], (some 116), none⟩,
        ⟨.mv, [.t 116], (some 2), none⟩])
      .ret)
      (.seq (.ops [⟨(.bin .eql), [.t 106, .c (.pv (.i .i64 3))], (some 118), none⟩,
        ⟨.mv, [.t 118], (some 117), none⟩])
      (.ite (.t 117) (.seq (.ops [⟨(.fa 2), [.t 1], (some 119), none⟩,
          ⟨(.ld 8 true), [.t 119], (some 120), none⟩,
          ⟨(.fa 11), [.t 1], (some 121), none⟩,
          ⟨(.ld 2 true), [.t 121], (some 122), none⟩,
          ⟨(.call 76), [.t 120, .t 122], (some 123), none⟩,
          ⟨.mv, [.t 123], (some 124), none⟩,
          ⟨(.fa 17), [.t 1], (some 125), (some (124, true))⟩,
          ⟨(.ld 1 false), [.t 125], (some 126), (some (124, true))⟩,
          ⟨(.fa 2), [.t 1], (some 127), (some (124, true))⟩,
          ⟨(.ld 8 true), [.t 127], (some 128), (some (124, true))⟩,
          ⟨(.call 81), [.t 126, .c (.pv (.i .i64 1)), .t 128], (some 129), (some (124, true))⟩,
          ⟨.pick, [.t 124, .t 129, .c (.pv (.b false))], (some 130), none⟩,
          ⟨.mv, [.t 130], (some 131), none⟩,
          ⟨.mv, [.t 6], (some 132), (some (131, true))⟩,
          ⟨(.fa 18), [.t 1], (some 133), (some (131, true))⟩,
          ⟨(.ld 1 false), [.t 133], (some 134), (some (131, true))⟩,
          ⟨.yv, [.t 132, .t 134], (some 135), (some (131, true))⟩,
          ⟨.pick, [.t 131, .t 135, .c (.pv (.b false))], (some 136), none⟩,
          ⟨.mv, [.t 136], (some 137), none⟩,
          ⟨(.fa 19), [.t 1], (some 138), (some (137, true))⟩,
          ⟨(.ld 1 false), [.t 138], (some 139), (some (137, true))⟩,
          ⟨.lenS, [.t 139], (some 140), (some (137, true))⟩,
          ⟨(.bin .geq), [.t 140, .c (.pv (.i .i64 1))], (some 141), (some (137, true))⟩,
          ⟨.pick, [.t 137, .t 141, .c (.pv (.b false))], (some 142), none⟩,
          ⟨.mv, [.t 142], (some 143), none⟩,
          ⟨.mv, [.t 6], (some 144), (some (143, true))⟩,
          ⟨(.fa 19), [.t 1], (some 145), (some (143, true))⟩,
          ⟨(.ld 1 false), [.t 145], (some 146), (some (143, true))⟩,
          ⟨.lenS, [.t 146], (some 147), (some (143, true))⟩,
          ⟨.yv, [.t 144, .t 147], (some 148), (some (143, true))⟩,
          ⟨.pick, [.t 143, .t 148, .c (.pv (.b false))], (some 149), none⟩,
          ⟨.mv, [.t 149], (some 150), none⟩,
          ⟨.mv, [.t 6], (some 151), (some (150, true))⟩,
          ⟨(.fa 18), [.t 1], (some 152), (some (150, true))⟩,
          ⟨(.ld 1 false), [.t 152], (some 153), (some (150, true))⟩,
          ⟨(.fa 19), [.t 1], (some 154), (some (150, true))⟩,
          ⟨(.ld 1 false), [.t 154], (some 155), (some (150, true))⟩,
          ⟨.lenS, [.t 155], (some 156), (some (150, true))⟩,
          ⟨(.bin .add), [.t 153, .t 156], (some 157), (some (150, true))⟩,
          ⟨.yv, [.t 151, .t 157], (some 158), (some (150, true))⟩,
          ⟨.pick, [.t 150, .t 158, .c (.pv (.b false))], (some 159), none⟩,
          ⟨.mv, [.t 159], (some 2), none⟩])
        .ret)
        (.seq (.ops [⟨(.bin .eql), [.t 106, .c (.pv (.i .i64 4))], (some 161), none⟩,
          ⟨.mv, [.t 161], (some 160), none⟩])
        (.ite (.t 160) (.seq (.ops [⟨(.fa 2), [.t 1], (some 162), none⟩,
            ⟨(.ld 8 true), [.t 162], (some 163), none⟩,
            ⟨(.fa 11), [.t 1], (some 164), none⟩,
            ⟨(.ld 2 true), [.t 164], (some 165), none⟩,
            ⟨(.call 76), [.t 163, .t 165], (some 166), none⟩,
            ⟨.mv, [.t 166], (some 167), none⟩,
            ⟨(.fa 17), [.t 1], (some 168), (some (167, true))⟩,
            ⟨(.ld 1 false), [.t 168], (some 169), (some (167, true))⟩,
            ⟨(.fa 2), [.t 1], (some 170), (some (167, true))⟩,
            ⟨(.ld 8 true), [.t 170], (some 171), (some (167, true))⟩,
            ⟨(.call 81), [.t 169, .c (.pv (.i .i64 1)), .t 171], (some 172), (some (167, true))⟩,
            ⟨.pick, [.t 167, .t 172, .c (.pv (.b false))], (some 173), none⟩,
            ⟨.mv, [.t 173], (some 174), none⟩,
            ⟨.mv, [.t 6], (some 175), (some (174, true))⟩,
            ⟨(.fa 18), [.t 1], (some 176), (some (174, true))⟩,
            ⟨(.ld 1 false), [.t 176], (some 177), (some (174, true))⟩,
            ⟨.yv, [.t 175, .t 177], (some 178), (some (174, true))⟩,
            ⟨.pick, [.t 174, .t 178, .c (.pv (.b false))], (some 179), none⟩,
            ⟨.mv, [.t 179], (some 2), none⟩])
          .ret)
          (.seq (.ops [⟨(.bin .eql), [.t 106, .c (.pv (.i .i64 5))], (some 181), none⟩,
            ⟨.mv, [.t 181], (some 180), none⟩])
          (.ite (.t 180) (.seq (.ops [⟨(.fa 2), [.t 1], (some 182), none⟩,
              ⟨(.ld 8 true), [.t 182], (some 183), none⟩,
              ⟨(.fa 11), [.t 1], (some 184), none⟩,
              ⟨(.ld 2 true), [.t 184], (some 185), none⟩,
              ⟨(.call 76), [.t 183, .t 185], (some 186), none⟩,
              ⟨.mv, [.t 186], (some 187), none⟩,
              ⟨(.fa 17), [.t 1], (some 188), (some (187, true))⟩,
              ⟨(.ld 1 false), [.t 188], (some 189), (some (187, true))⟩,
              ⟨(.fa 2), [.t 1], (some 190), (some (187, true))⟩,
              ⟨(.ld 8 true), [.t 190], (some 191), (some (187, true))⟩,
              ⟨(.call 81), [.t 189, .c (.pv (.i .i64 8)), .t 191], (some 192), (some (187, true))⟩,
              ⟨.pick, [.t 187, .t 192, .c (.pv (.b false))], (some 193), none⟩,
              ⟨.mv, [.t 193], (some 194), none⟩,
              ⟨(.fa 17), [.t 1], (some 195), (some (194, true))⟩,
              ⟨(.ld 1 false), [.t 195], (some 196), (some (194, true))⟩,
              ⟨.len, [.t 196], (some 197), (some (194, true))⟩,
              ⟨(.bin .geq), [.t 197, .c (.pv (.i .i64 2))], (some 198), (some (194, true))⟩,
              ⟨.pick, [.t 194, .t 198, .c (.pv (.b false))], (some 199), none⟩,
              ⟨.mv, [.t 199], (some 200), none⟩,
              ⟨.mv, [.t 6], (some 201), (some (200, true))⟩,
              ⟨(.fa 19), [.t 1], (some 202), (some (200, true))⟩,
              ⟨(.ld 1 false), [.t 202], (some 203), (some (200, true))⟩,
              ⟨.lenS, [.t 203], (some 204), (some (200, true))⟩,
              ⟨.yv, [.t 201, .t 204], (some 205), (some (200, true))⟩,
              ⟨.pick, [.t 200, .t 205, .c (.pv (.b false))], (some 206), none⟩,
              ⟨.mv, [.t 206], (some 2), none⟩])
            .ret)
            (.seq (.ops [⟨(.bin .eql), [.t 106, .c (.pv (.i .i64 6))], (some 208), none⟩,
              ⟨.mv, [.t 208], (some 207), none⟩])
            (.ite (.t 207) (.seq (.ops [⟨(.fa 2), [.t 1], (some 209), none⟩,
                ⟨(.ld 8 true), [.t 209], (some 210), none⟩,
                ⟨(.fa 11), [.t 1], (some 211), none⟩,
                ⟨(.ld 2 true), [.t 211], (some 212), none⟩,
                ⟨(.call 76), [.t 210, .t 212], (some 213), none⟩,
                ⟨.mv, [.t 213], (some 214), none⟩,
                ⟨(.fa 16), [.t 1], (some 215), (some (214, true))⟩,
                ⟨(.ld 1 false), [.t 215], (some 216), (some (214, true))⟩,
                ⟨(.fa 2), [.t 1], (some 217), (some (214, true))⟩,
                ⟨(.ld 8 true), [.t 217], (some 218), (some (214, true))⟩,
                ⟨(.call 81), [.t 216, .c (.pv (.i .i64 8)), .t 218], (some 219), (some (214, true))⟩,
                ⟨.pick, [.t 214, .t 219, .c (.pv (.b false))], (some 220), none⟩,
                ⟨.mv, [.t 220], (some 2), none⟩])
              .ret)
              (.seq (.ops [⟨(.bin .eql), [.t 106, .c (.pv (.i .i64 7))], (some 222), none⟩,
                ⟨.mv, [.t 222], (some 221), none⟩])
              (.ite (.t 221) (.seq (.ops [⟨(.fa 2), [.t 1], (some 223), none⟩,
                  ⟨(.ld 8 true), [.t 223], (some 224), none⟩,
                  ⟨(.fa 11), [.t 1], (some 225), none⟩,
                  ⟨(.ld 2 true), [.t 225], (some 226), none⟩,
                  ⟨(.call 76), [.t 224, .t 226], (some 227), none⟩,
                  ⟨.mv, [.t 227], (some 228), none⟩,
                  ⟨(.fa 16), [.t 1], (some 229), (some (228, true))⟩,
                  ⟨(.ld 1 false), [.t 229], (some 230), (some (228, true))⟩,
                  ⟨(.fa 2), [.t 1], (some 231), (some (228, true))⟩,
                  ⟨(.ld 8 true), [.t 231], (some 232), (some (228, true))⟩,
                  ⟨(.call 81), [.t 230, .c (.pv (.i .i64 8)), .t 232], (some 233), (some (228, true))⟩,
                  ⟨.pick, [.t 228, .t 233, .c (.pv (.b false))], (some 234), none⟩,
                  ⟨.mv, [.t 234], (some 235), none⟩,
                  ⟨(.ld 21 true), [.t 1], (some 236), (some (235, true))⟩,
                  ⟨(.call 80), [.t 236], (some 237), (some (235, true))⟩,
                  ⟨.pick, [.t 235, .t 237, .c (.pv (.b false))], (some 238), none⟩,
                  ⟨.mv, [.t 238], (some 239), none⟩,
                  ⟨(.fa 15), [.t 1], (some 240), (some (239, true))⟩,
                  ⟨(.ld 1 false), [.t 240], (some 241), (some (239, true))⟩,
                  ⟨(.call 42), [.t 241], (some 242), (some (239, true))⟩,
                  ⟨.pick, [.t 239, .t 242, .c (.pv (.b false))], (some 243), none⟩,
                  ⟨.mv, [.t 243], (some 2), none⟩])
                .ret)
                (.seq (.ops [⟨(.bin .eql), [.t 106, .c (.pv (.i .i64 8))], (some 245), none⟩,
                  ⟨.mv, [.t 245], (some 244), none⟩])
                (.ite (.t 244) (.seq (.ops [⟨(.fa 20), [.t 1], (some 246), none⟩,
                    ⟨(.ld 1 false), [.t 246], (some 247), none⟩,
                    ⟨(.bin .geq), [.t 247, .c (.pv (.i .i64 1))], (some 248), none⟩,
                    ⟨.mv, [.t 248], (some 249), none⟩,
                    ⟨(.fa 20), [.t 1], (some 250), (some (249, true))⟩,
                    ⟨(.ld 1 false), [.t 250], (some 251), (some (249, true))⟩,
                    ⟨(.bin .leq), [.t 251, .c (.pv (.i .i64 4))], (some 252), (some (249, true))⟩,
                    ⟨.pick, [.t 249, .t 252, .c (.pv (.b false))], (some 253), none⟩,
                    ⟨.mv, [.t 253], (some 2), none⟩])
                  .ret)
                  .skip))))))))))))))))
  (.seq (.ops [⟨.mv, [.c (.pv (.b true))], (some 2), none⟩])
  .ret))))))))
theorem fn40 : fnOf Try.prog 40 = some (254, [.t 2], ir40) := by kernel_rfl
def ir41 : C :=
  (.seq (.ops [⟨.box, [.t 0], (some 1), none⟩,
    ⟨.mv, [.c (.pv (.b false))], (some 2), none⟩])
  (.seq (.seq (.any [37] [(⟨(.fa 0), [.t 1], (some 9), none⟩, 0, [37]),
    (⟨(.fa 0), [.t 9], (some 10), none⟩, 0, [37]),
    (⟨(.ld 1 false), [.t 10], (some 11), none⟩, 1, [37]),
    (⟨(.bin .lss), [.t 11, .c (.pv (.i .i64 1))], (some 12), none⟩, 0, [37]),
    (⟨.mv, [.t 12], (some 13), none⟩, 0, [37]),
    (⟨(.fa 0), [.t 1], (some 14), (some (13, false))⟩, 0, [37]),
    (⟨(.fa 0), [.t 14], (some 15), (some (13, false))⟩, 0, [37]),
    (⟨(.ld 1 false), [.t 15], (some 16), (some (13, false))⟩, 1, [37]),
    (⟨(.bin .gtr), [.t 16, .c (.pv (.i .i64 8))], (some 17), (some (13, false))⟩, 0, [37]),
    (⟨.pick, [.t 13, .c (.pv (.b true)), .t 17], (some 18), none⟩, 0, [37]),
    (⟨.mv, [.t 18], (some 19), none⟩, 0, [37]),
    (⟨(.fa 0), [.t 1], (some 20), (some (19, false))⟩, 0, [37]),
    (⟨(.fa 1), [.t 20], (some 21), (some (19, false))⟩, 0, [37]),
    (⟨(.ld 1 false), [.t 21], (some 22), (some (19, false))⟩, 1, [37]),
    (⟨(.bin .lss), [.t 22, .c (.pv (.i .u32 1))], (some 23), (some (19, false))⟩, 0, [37]),
    (⟨.pick, [.t 19, .c (.pv (.b true)), .t 23], (some 24), none⟩, 0, [37]),
    (⟨.mv, [.t 24], (some 25), none⟩, 0, [37]),
    (⟨(.fa 0), [.t 1], (some 26), (some (25, false))⟩, 0, [37]),
    (⟨(.fa 1), [.t 26], (some 27), (some (25, false))⟩, 0, [37]),
    (⟨(.ld 1 false), [.t 27], (some 28), (some (25, false))⟩, 1, [37]),
    (⟨(.bin .gtr), [.t 28, .c (.pv (.i .u32 1048576))], (some 29), (some (25, false))⟩, 0, [37]),
    (⟨.pick, [.t 25, .c (.pv (.b true)), .t 29], (some 30), none⟩, 0, [37]),
    (⟨.mv, [.t 30], (some 31), none⟩, 0, [37]),
    (⟨(.fa 2), [.t 1], (some 32), (some (31, false))⟩, 0, [37]),
    (⟨(.ld 8 true), [.t 32], (some 33), (some (31, false))⟩, 1, [37]),
    (⟨(.fa 0), [.t 1], (some 34), (some (31, false))⟩, 0, [37]),
    (⟨(.fa 0), [.t 34], (some 35), (some (31, false))⟩, 0, [37]),
    (⟨(.ld 1 false), [.t 35], (some 36), (some (31, false))⟩, 1, [37]),
    (⟨(.call 82), [.t 33, .t 36], (some 37), (some (31, false))⟩, 1, [37]),
    (⟨(.bin .add), [.t 37, .c (.pv (.i .u32 1))], (some 38), (some (31, false))⟩, 0, []),
    (⟨(.fa 0), [.t 1], (some 39), (some (31, false))⟩, 0, [37]),
    (⟨(.fa 1), [.t 39], (some 40), (some (31, false))⟩, 0, [37]),
    (⟨(.ld 1 false), [.t 40], (some 41), (some (31, false))⟩, 1, [37]),
    (⟨(.bin .neq), [.t 38, .t 41], (some 42), (some (31, false))⟩, 0, [37]),
    (⟨.pick, [.t 31, .c (.pv (.b true)), .t 42], (some 43), none⟩, 0, [37])])
  (.ite (.t 43) (.seq (.ops [⟨.mv, [.c (.pv (.b false))], (some 2), none⟩])
    .ret)
    .skip))
  (.seq (.seq (.ops [⟨.mv, [.c (.pv (.i .i64 0))], (some 3), none⟩])
  (.block 0 (.loop (.seq (.seq (.ops [⟨.mv, [.t 3], (some 44), none⟩,
        ⟨(.bin .lss), [.t 44, .c (.pv (.i .i64 8))], (some 45), none⟩])
      (.ite (.t 45) .skip
        (.exit 0)))
      (.seq (.block 1 (.seq (.ops [⟨.mv, [.t 3], (some 48), none⟩,
          ⟨(.fa 2), [.t 1], (some 49), none⟩,
          ⟨(.iaA 8 1), [.t 49, .t 48], (some 50), none⟩,
          ⟨(.ld 1 false), [.t 50], (some 51), none⟩,
          ⟨(.bin .gtr), [.t 51, .c (.pv (.i .u32 1048576))], (some 52), none⟩])
        (.ite (.t 52) (.seq (.ops [⟨.mv, [.c (.pv (.b false))], (some 2), none⟩])
          .ret)
          .skip)))
      (.ops [⟨.mv, [.t 3], (some 46), none⟩,
        ⟨(.bin .add), [.t 46, .c (.pv (.i .i64 1))], (some 47), none⟩,
        ⟨.mv, [.t 47], (some 3), none⟩]))))))
  (.seq (.any [57, 60, 66] [(⟨(.fa 2), [.t 1], (some 53), none⟩, 0, [57, 60, 66]),
    (⟨(.ld 8 true), [.t 53], (some 54), none⟩, 1, [57, 60, 66]),
    (⟨(.fa 11), [.t 1], (some 55), none⟩, 0, [57, 60, 66]),
    (⟨(.ld 2 true), [.t 55], (some 56), none⟩, 1, [57, 60, 66]),
    (⟨(.call 77), [.t 54, .t 56], (some 57), none⟩, 1, [57, 60, 66]),
    (⟨(.fa 13), [.t 1], (some 58), none⟩, 0, [57, 60, 66]),
    (⟨(.ld 2 true), [.t 58], (some 59), none⟩, 1, [57, 60, 66]),
    (⟨(.call 83), [.t 59], (some 60), none⟩, 1, [60, 66]),
    (⟨.mv, [.t 60], (some 61), none⟩, 0, [57, 66]),
    (⟨(.fa 2), [.t 1], (some 62), (some (61, false))⟩, 0, [57, 60, 66]),
    (⟨(.ld 8 true), [.t 62], (some 63), (some (61, false))⟩, 1, [57, 60, 66]),
    (⟨(.fa 13), [.t 1], (some 64), (some (61, false))⟩, 0, [57, 60, 66]),
    (⟨(.ld 2 true), [.t 64], (some 65), (some (61, false))⟩, 1, [57, 60, 66]),
    (⟨(.call 77), [.t 63, .t 65], (some 66), (some (61, false))⟩, 1, [57, 60, 66]),
    (⟨.pick, [.t 61, .c (.pv (.b true)), .t 66], (some 67), none⟩, 0, [57, 60]),
    (⟨.mv, [.t 57], (some 4), none⟩, 0, [60]),
    (⟨.mv, [.t 67], (some 5), none⟩, 0, [])])
  (.seq (.any [77, 83] [(⟨(.fa 16), [.t 1], (some 68), none⟩, 0, [77, 83]),
    (⟨(.ld 1 false), [.t 68], (some 69), none⟩, 1, [77, 83]),
    (⟨.len, [.t 69], (some 70), none⟩, 1, [77, 83]),
    (⟨(.bin .leq), [.t 70, .c (.pv (.i .i64 8))], (some 71), none⟩, 0, [77, 83]),
    (⟨.mv, [.t 71], (some 72), none⟩, 0, [77, 83]),
    (⟨(.fa 16), [.t 1], (some 73), (some (72, true))⟩, 0, [77, 83]),
    (⟨(.ld 1 false), [.t 73], (some 74), (some (72, true))⟩, 1, [77, 83]),
    (⟨(.fa 2), [.t 1], (some 75), (some (72, true))⟩, 0, [77, 83]),
    (⟨(.ld 8 true), [.t 75], (some 76), (some (72, true))⟩, 1, [77, 83]),
    (⟨(.call 84), [.t 74, .t 76], (some 77), (some (72, true))⟩, 1, [77, 83]),
    (⟨.pick, [.t 72, .t 77, .c (.pv (.b false))], (some 78), none⟩, 0, [83]),
    (⟨(.fa 17), [.t 1], (some 79), none⟩, 0, [77, 83]),
    (⟨(.ld 1 false), [.t 79], (some 80), none⟩, 1, [77, 83]),
    (⟨(.fa 2), [.t 1], (some 81), none⟩, 0, [77, 83]),
    (⟨(.ld 8 true), [.t 81], (some 82), none⟩, 1, [77, 83]),
    (⟨(.call 84), [.t 80, .t 82], (some 83), none⟩, 1, [83]),
    (⟨.mv, [.t 78], (some 6), none⟩, 0, []),
    (⟨.mv, [.t 83], (some 7), none⟩, 0, [])])
  (.seq (.ops [⟨(.fa 18), [.t 1], (some 84), none⟩,
    ⟨(.ld 1 false), [.t 84], (some 85), none⟩,
    ⟨(.bin .geq), [.t 85, .c (.pv (.i .i64 0))], (some 86), none⟩,
    ⟨.mv, [.t 86], (some 87), none⟩,
    ⟨(.fa 18), [.t 1], (some 88), (some (87, true))⟩,
    ⟨(.ld 1 false), [.t 88], (some 89), (some (87, true))⟩,
    ⟨(.bin .leq), [.t 89, .c (.pv (.i .i64 200))], (some 90), (some (87, true))⟩,
    ⟨.pick, [.t 87, .t 90, .c (.pv (.b false))], (some 91), none⟩,
    ⟨.mv, [.t 91], (some 8), none⟩])
  (.seq (.seq (.ops [⟨(.fa 10), [.t 1], (some 92), none⟩,
    ⟨(.ld 1 false), [.t 92], (some 93), none⟩])
  (.block 2 (.seq (.seq (.ops [⟨(.bin .eql), [.t 93, .c (.pv (.i .i64 1))], (some 95), none⟩,
      ⟨.mv, [.t 95], (some 94), none⟩])
    (.ite (.t 94) .skip
      (.ops [⟨(.bin .eql), [.t 93, .c (.pv (.i .i64 2))], (some 96), none⟩,
        ⟨.mv, [.t 96], (some 94), none⟩])))
    (.ite (.t 94) (.seq (.ops [⟨.mv, [.t 5], (some 97), none⟩,
        ⟨.mv, [.t 97], (some 98), none⟩,
        ⟨(.fa 15), [.t 1], (some 99), (some (98, true))⟩,
        ⟨(.ld 1 false), [.t 99], (some 100), (some (98, true))⟩,
        ⟨(.call 43), [.t 100], (some 101), (some (98, true))⟩,
        ⟨.pick, [.t 98, .t 101, .c (.pv (.b false))], (some 102), none⟩,
        ⟨.mv, [.t 102], (some 103), none⟩,
        ⟨(.ld 21 true), [.t 1], (some 104), (some (103, true))⟩,
        ⟨(.call 85), [.t 104, .c (.pv (.b false)), .c (.pv (.b true)), .c (.pv (.b false)), .c (.pv (.b false)), .c (.pv (.b false)), .c (.pv (.b false)), .c (.pv (.b false))], (some 105), (some (103, true))⟩,
        ⟨.pick, [.t 103, .t 105, .c (.pv (.b false))], (some 106), none⟩,
        ⟨.mv, [.t 106], (some 2), none⟩])
      .ret)
      (.seq (.ops [⟨(.bin .eql), [.t 93, .c (.pv (.i .i64 3))], (some 108), none⟩,
        ⟨.mv, [.t 108], (some 107), none⟩])
      (.ite (.t 107) (.seq (.ops [⟨.mv, [.t 4], (some 109), none⟩,
          ⟨.mv, [.t 109], (some 110), none⟩,
          ⟨.mv, [.t 7], (some 111), (some (110, true))⟩,
          ⟨.pick, [.t 110, .t 111, .c (.pv (.b false))], (some 112), none⟩,
          ⟨.mv, [.t 112], (some 113), none⟩,
          ⟨(.fa 17), [.t 1], (some 114), (some (113, true))⟩,
          ⟨(.ld 1 false), [.t 114], (some 115), (some (113, true))⟩,
          ⟨.len, [.t 115], (some 116), (some (113, true))⟩,
          ⟨(.bin .leq), [.t 116, .c (.pv (.i .i64 1))], (some 117), (some (113, true))⟩,
          ⟨.pick, [.t 113, .t 117, .c (.pv (.b false))], (some 118), none⟩,
          ⟨.mv, [.t 118], (some 119), none⟩,
          ⟨.mv, [.t 8], (some 120), (some (119, true))⟩,
          ⟨.pick, [.t 119, .t 120, .c (.pv (.b false))], (some 121), none⟩,
          ⟨.mv, [.t 121], (some 122), none⟩,
          ⟨(.fa 19), [.t 1], (some 123), (some (122, true))⟩,
          ⟨(.ld 1 false), [.t 123], (some 124), (some (122, true))⟩,
          ⟨(.bin .neq), [.t 124, .c (.pv (.s []))], (some 125), (some (122, true))⟩,
          ⟨.pick, [.t 122, .t 125, .c (.pv (.b false))], (some 126), none⟩,
          ⟨.mv, [.t 126], (some 127), none⟩,
          ⟨(.fa 19), [.t 1], (some 128), (some (127, true))⟩,
          ⟨(.ld 1 false), [.t 128], (some 129), (some (127, true))⟩,
          ⟨.lenS, [.t 129], (some 130), (some (127, true))⟩,
          ⟨(.fa 18), [.t 1], (some 131), (some (127, true))⟩,
          ⟨(.ld 1 false), [.t 131], (some 132), (some (127, true))⟩,
          ⟨(.bin .sub), [.c (.pv (.i .i64 200)), .t 132], (some 133), (some (127, true))⟩,
          ⟨(.bin .leq), [.t 130, .t 133], (some 134), (some (127, true))⟩,
          ⟨.pick, [.t 127, .t 134, .c (.pv (.b false))], (some 135), none⟩,
          ⟨.mv, [.t 135], (some 136), none⟩,
          ⟨(.ld 21 true), [.t 1], (some 137), (some (136, true))⟩,
          ⟨(.call 85), [.t 137, .c (.pv (.b true)), .c (.pv (.b false)), .c (.pv (.b false)), .c (.pv (.b true)), .c (.pv (.b true)), .c (.pv (.b true)), .c (.pv (.b false))], (some 138), (some (136, true))⟩,
          ⟨.pick, [.t 136, .t 138, .c (.pv (.b false))], (some 139), none⟩,
          ⟨.mv, [.t 139], (some 2), none⟩])
        .ret)
        (.seq (.ops [⟨(.bin .eql), [.t 93, .c (.pv (.i .i64 4))], (some 141), none⟩,
          ⟨.mv, [.t 141], (some 140), none⟩])
        (.ite (.t 140) (.seq (.ops [⟨.mv, [.t 4], (some 142), none⟩,
            ⟨.mv, [.t 142], (some 143), none⟩,
            ⟨.mv, [.t 7], (some 144), (some (143, true))⟩,
            ⟨.pick, [.t 143, .t 144, .c (.pv (.b false))], (some 145), none⟩,
            ⟨.mv, [.t 145], (some 146), none⟩,
            ⟨(.fa 17), [.t 1], (some 147), (some (146, true))⟩,
            ⟨(.ld 1 false), [.t 147], (some 148), (some (146, true))⟩,
            ⟨.len, [.t 148], (some 149), (some (146, true))⟩,
            ⟨(.bin .leq), [.t 149, .c (.pv (.i .i64 1))], (some 150), (some (146, true))⟩,
            ⟨.pick, [.t 146, .t 150, .c (.pv (.b false))], (some 151), none⟩,
            ⟨.mv, [.t 151], (some 152), none⟩,
            ⟨.mv, [.t 8], (some 153), (some (152, true))⟩,
            ⟨.pick, [.t 152, .t 153, .c (.pv (.b false))], (some 154), none⟩,
            ⟨.mv, [.t 154], (some 155), none⟩,
            ⟨(.ld 21 true), [.t 1], (some 156), (some (155, true))⟩,
            ⟨(.call 85), [.t 156, .c (.pv (.b true)), .c (.pv (.b false)), .c (.pv (.b false)), .c (.pv (.b true)), .c (.pv (.b true)), .c (.pv (.b false)), .c (.pv (.b false))], (some 157), (some (155, true))⟩,
            ⟨.pick, [.t 155, .t 157, .c (.pv (.b false))], (some 158), none⟩,
            ⟨.mv, [.t 158], (some 2), none⟩])
          .ret)
          (.seq (.ops [⟨(.bin .eql), [.t 93, .c (.pv (.i .i64 5))], (some 160), none⟩,
            ⟨.mv, [.t 160], (some 159), none⟩])
          (.ite (.t 159) (.seq (.ops [⟨.mv, [.t 4], (some 161), none⟩,
              ⟨.mv, [.t 161], (some 162), none⟩,
              ⟨.mv, [.t 7], (some 163), (some (162, true))⟩,
              ⟨.pick, [.t 162, .t 163, .c (.pv (.b false))], (some 164), none⟩,
              ⟨.mv, [.t 164], (some 165), none⟩,
              ⟨(.fa 17), [.t 1], (some 166), (some (165, true))⟩,
              ⟨(.ld 1 false), [.t 166], (some 167), (some (165, true))⟩,
              ⟨.len, [.t 167], (some 168), (some (165, true))⟩,
              ⟨(.bin .geq), [.t 168, .c (.pv (.i .i64 2))], (some 169), (some (165, true))⟩,
              ⟨.pick, [.t 165, .t 169, .c (.pv (.b false))], (some 170), none⟩,
              ⟨.mv, [.t 170], (some 171), none⟩,
              ⟨(.fa 17), [.t 1], (some 172), (some (171, true))⟩,
              ⟨(.ld 1 false), [.t 172], (some 173), (some (171, true))⟩,
              ⟨.len, [.t 173], (some 174), (some (171, true))⟩,
              ⟨(.bin .leq), [.t 174, .c (.pv (.i .i64 8))], (some 175), (some (171, true))⟩,
              ⟨.pick, [.t 171, .t 175, .c (.pv (.b false))], (some 176), none⟩,
              ⟨.mv, [.t 176], (some 177), none⟩,
              ⟨(.fa 19), [.t 1], (some 178), (some (177, true))⟩,
              ⟨(.ld 1 false), [.t 178], (some 179), (some (177, true))⟩,
              ⟨.lenS, [.t 179], (some 180), (some (177, true))⟩,
              ⟨(.bin .leq), [.t 180, .c (.pv (.i .i64 200))], (some 181), (some (177, true))⟩,
              ⟨.pick, [.t 177, .t 181, .c (.pv (.b false))], (some 182), none⟩,
              ⟨.mv, [.t 182], (some 183), none⟩,
              ⟨(.ld 21 true), [.t 1], (some 184), (some (183, true))⟩,
              ⟨(.call 85), [.t 184, .c (.pv (.b true)), .c (.pv (.b false)), .c (.pv (.b false)), .c (.pv (.b true)), .c (.pv (.b false)), .c (.pv (.b true)), .c (.pv (.b false))], (some 185), (some (183, true))⟩,
              ⟨.pick, [.t 183, .t 185, .c (.pv (.b false))], (some 186), none⟩,
              ⟨.mv, [.t 186], (some 2), none⟩])
            .ret)
            (.seq (.ops [⟨(.bin .eql), [.t 93, .c (.pv (.i .i64 6))], (some 188), none⟩,
              ⟨.mv, [.t 188], (some 187), none⟩])
            (.ite (.t 187) (.seq (.ops [⟨.mv, [.t 4], (some 189), none⟩,
                ⟨.mv, [.t 189], (some 190), none⟩,
                ⟨.mv, [.t 6], (some 191), (some (190, true))⟩,
                ⟨.pick, [.t 190, .t 191, .c (.pv (.b false))], (some 192), none⟩,
                ⟨.mv, [.t 192], (some 193), none⟩,
                ⟨(.ld 21 true), [.t 1], (some 194), (some (193, true))⟩,
                ⟨(.call 85), [.t 194, .c (.pv (.b true)), .c (.pv (.b false)), .c (.pv (.b true)), .c (.pv (.b false)), .c (.pv (.b false)), .c (.pv (.b false)), .c (.pv (.b false))], (some 195), (some (193, true))⟩,
                ⟨.pick, [.t 193, .t 195, .c (.pv (.b false))], (some 196), none⟩,
                ⟨.mv, [.t 196], (some 2), none⟩])
              .ret)
              (.seq (.ops [⟨(.bin .eql), [.t 93, .c (.pv (.i .i64 7))], (some 198), none⟩,
                ⟨.mv, [.t 198], (some 197), none⟩])
              (.ite (.t 197) (.seq (.ops [⟨.mv, [.t 4], (some 199), none⟩,
                  ⟨.mv, [.t 199], (some 200), none⟩,
                  ⟨.mv, [.t 6], (some 201), (some (200, true))⟩,
                  ⟨.pick, [.t 200, .t 201, .c (.pv (.b false))], (some 202), none⟩,
                  ⟨.mv, [.t 202], (some 203), none⟩,
                  ⟨.mv, [.t 5], (some 204), (some (203, true))⟩,
                  ⟨.pick, [.t 203, .t 204, .c (.pv (.b false))], (some 205), none⟩,
                  ⟨.mv, [.t 205], (some 206), none⟩,
                  ⟨(.fa 15), [.t 1], (some 207), (some (206, true))⟩,
                  ⟨(.ld 1 false), [.t 207], (some 208), (some (206, true))⟩,
                  ⟨(.call 43), [.t 208], (some 209), (some (206, true))⟩,
                  ⟨.pick, [.t 206, .t 209, .c (.pv (.b false))], (some 210), none⟩,
                  ⟨.mv, [.t 210], (some 211), none⟩,
                  ⟨(.ld 21 true), [.t 1], (some 212), (some (211, true))⟩,
                  ⟨(.call 85), [.t 212, .c (.pv (.b true)), .c (.pv (.b true)), .c (.pv (.b true)), .c (.pv (.b false)), .c (.pv (.b false)), .c (.pv (.b false)), .c (.pv (.b false))], (some 213), (some (211, true))⟩,
                  ⟨.pick, [.t 211, .t 213, .c (.pv (.b false))], (some 214), none⟩,
                  ⟨.mv, [.t 214], (some 2), none⟩])
                .ret)
                (.seq (.ops [⟨(.bin .eql), [.t 93, .c (.pv (.i .i64 8))], (some 216), none⟩,
                  ⟨.mv, [.t 216], (some 215), none⟩])
                (.ite (.t 215) (.seq (.ops [⟨(.fa 20), [.t 1], (some 217), none⟩,
                    ⟨(.ld 1 false), [.t 217], (some 218), none⟩,
                    ⟨(.bin .geq), [.t 218, .c (.pv (.i .i64 1))], (some 219), none⟩,
                    ⟨.mv, [.t 219], (some 220), none⟩,
                    ⟨(.fa 20), [.t 1], (some 221), (some (220, true))⟩,
                    ⟨(.ld 1 false), [.t 221], (some 222), (some (220, true))⟩,
                    ⟨(.bin .leq), [.t 222, .c (.pv (.i .i64 4))], (some 223), (some (220, true))⟩,
                    ⟨.pick, [.t 220, .t 223, .c (.pv (.b false))], (some 224), none⟩,
                    ⟨.mv, [.t 224], (some 225), none⟩,
                    ⟨(.ld 21 true), [.t 1], (some 226), (some (225, true))⟩,
                    ⟨(.call 85), [.t 226, .c (.pv (.b false)), .c (.pv (.b false)), .c (.pv (.b false)), .c (.pv (.b false)), .c (.pv (.b false)), .c (.pv (.b false)), .c (.pv (.b true))], (some 227), (some (225, true))⟩,
                    ⟨.pick, [.t 225, .t 227, .c (.pv (.b false))], (some 228), none⟩,
                    ⟨.mv, [.t 228], (some 2), none⟩])
                  .ret)
                  (.seq (.ops [⟨(.bin .eql), [.t 93, .c (.pv (.i .i64 9))], (some 230), none⟩,
                    ⟨.mv, [.t 230], (some 229), none⟩])
                  (.ite (.t 229) (.seq (.ops [⟨(.ld 21 true), [.t 1], (some 231), none⟩,
                      ⟨(.call 85), [.t 231, .c (.pv (.b false)), .c (.pv (.b false)), .c (.pv (.b false)), .c (.pv (.b false)), .c (.pv (.b false)), .c (.pv (.b false)), .c (.pv (.b false))], (some 232), none⟩,
                      ⟨.mv, [.t 232], (some 2), none⟩])
                    .ret)
                    .skip))))))))))))))))))
  (.seq (.ops [⟨.mv, [.c (.pv (.b false))], (some 2), none⟩])
  .ret))))))))
theorem fn41 : fnOf Try.prog 41 = some (233, [.t 2], ir41) := by kernel_rfl
def ir42 : C :=
  (.seq (.ops [⟨.mv, [.c (.pv (.b false))], (some 2), none⟩])
  (.seq (.seq (.ops [⟨.mv, [.t 0], (some 5), none⟩,
    ⟨.lenS, [.t 5], (some 6), none⟩,
    ⟨(.bin .lss), [.t 6, .c (.pv (.i .i64 1))], (some 7), none⟩,
    ⟨.mv, [.t 7], (some 8), none⟩,
    ⟨.mv, [.t 0], (some 9), (some (8, false))⟩,
    ⟨.lenS, [.t 9], (some 10), (some (8, false))⟩,
    ⟨(.bin .gtr), [.t 10, .c (.pv (.i .i64 12))], (some 11), (some (8, false))⟩,
    ⟨.pick, [.t 8, .c (.pv (.b true)), .t 11], (some 12), none⟩,
    ⟨.mv, [.t 12], (some 13), none⟩,
    ⟨.mv, [.t 0], (some 14), (some (13, false))⟩,
    ⟨(.bin .eql), [.t 14, .c (.pv (.s [46]))], (some 15), (some (13, false))⟩,
    ⟨.pick, [.t 13, .c (.pv (.b true)), .t 15], (some 16), none⟩,
    ⟨.mv, [.t 16], (some 17), none⟩,
    ⟨.mv, [.t 0], (some 18), (some (17, false))⟩,
    ⟨(.bin .eql), [.t 18, .c (.pv (.s [46, 46]))], (some 19), (some (17, false))⟩,
    ⟨.pick, [.t 17, .c (.pv (.b true)), .t 19], (some 20), none⟩])
  (.ite (.t 20) (.seq (.ops [⟨.mv, [.c (.pv (.b false))], (some 2), none⟩])
    .ret)
    .skip))
  (.seq (.seq (.ops [⟨.mv, [.t 0], (some 21), none⟩,
    ⟨.rgs, [.t 21], (some 22), none⟩])
  (.block 0 (.loop (.seq (.ops [⟨.nxs, [.t 22], (some 23), none⟩,
        ⟨(.ext 0), [.t 23], (some 24), none⟩])
      (.seq (.ite (.t 24) .skip
        (.exit 0))
      (.block 1 (.seq (.ops [⟨(.ext 2), [.t 23], (some 25), none⟩,
          ⟨.mv, [.t 25], (some 4), none⟩])
        (.seq (.ops [⟨.mv, [.t 4], (some 26), none⟩,
          ⟨(.call 86), [.t 26], (some 27), none⟩,
          ⟨(.un .not), [.t 27], (some 28), none⟩,
          ⟨.mv, [.t 28], (some 29), none⟩,
          ⟨.mv, [.t 4], (some 30), (some (29, true))⟩,
          ⟨(.bin .lss), [.t 30, .c (.pv (.i .i32 48))], (some 31), (some (29, true))⟩,
          ⟨.mv, [.t 31], (some 32), (some (29, true))⟩,
          ⟨.mv, [.t 4], (some 33), (some (32, false))⟩,
          ⟨(.bin .gtr), [.t 33, .c (.pv (.i .i32 57))], (some 34), (some (32, false))⟩,
          ⟨.pick, [.t 32, .c (.pv (.b true)), .t 34], (some 35), (some (29, true))⟩,
          ⟨.pick, [.t 29, .t 35, .c (.pv (.b false))], (some 36), none⟩,
          ⟨.mv, [.t 36], (some 37), none⟩,
          ⟨.mv, [.t 4], (some 38), (some (37, true))⟩,
          ⟨(.call 87), [.c (.pv (.s [46, 95, 45])), .t 38], (some 39), (some (37, true))⟩,
          ⟨(.un .not), [.t 39], (some 40), (some (37, true))⟩,
          ⟨.pick, [.t 37, .t 40, .c (.pv (.b false))], (some 41), none⟩])
        (.ite (.t 41) (.seq (.ops [⟨.mv, [.c (.pv (.b false))], (some 2), none⟩])
          .ret)
          .skip)))))))))
  (.seq (.ops [⟨.mv, [.c (.pv (.b true))], (some 2), none⟩])
  .ret))))
theorem fn42 : fnOf Try.prog 42 = some (42, [.t 2], ir42) := by kernel_rfl
def ir43 : C :=
  (.seq (.ops [⟨.mv, [.c (.pv (.b false))], (some 2), none⟩])
  (.seq (.seq (.ops [⟨.mv, [.t 0], (some 8), none⟩,
    ⟨(.bin .eql), [.t 8, .c (.pv (.s []))], (some 9), none⟩,
    ⟨.mv, [.t 9], (some 10), none⟩,
    ⟨.mv, [.t 0], (some 11), (some (10, false))⟩,
    ⟨.lenS, [.t 11], (some 12), (some (10, false))⟩,
    ⟨(.bin .gtr), [.t 12, .c (.pv (.i .i64 12))], (some 13), (some (10, false))⟩,
    ⟨.pick, [.t 10, .c (.pv (.b true)), .t 13], (some 14), none⟩,
    ⟨.mv, [.t 14], (some 15), none⟩,
    ⟨.mv, [.t 0], (some 16), (some (15, false))⟩,
    ⟨(.bin .eql), [.t 16, .c (.pv (.s [46]))], (some 17), (some (15, false))⟩,
    ⟨.pick, [.t 15, .c (.pv (.b true)), .t 17], (some 18), none⟩,
    ⟨.mv, [.t 18], (some 19), none⟩,
    ⟨.mv, [.t 0], (some 20), (some (19, false))⟩,
    ⟨(.bin .eql), [.t 20, .c (.pv (.s [46, 46]))], (some 21), (some (19, false))⟩,
    ⟨.pick, [.t 19, .c (.pv (.b true)), .t 21], (some 22), none⟩])
  (.ite (.t 22) (.seq (.ops [⟨.mv, [.c (.pv (.b false))], (some 2), none⟩])
    .ret)
    .skip))
  (.seq (.seq (.ops [⟨.mv, [.c (.pv (.i .i64 0))], (some 3), none⟩])
  (.block 0 (.loop (.seq (.seq (.ops [⟨.mv, [.t 3], (some 23), none⟩,
        ⟨.mv, [.t 0], (some 24), none⟩,
        ⟨.lenS, [.t 24], (some 25), none⟩,
        ⟨(.bin .lss), [.t 23, .t 25], (some 26), none⟩])
      (.ite (.t 26) .skip
        (.exit 0)))
      (.seq (.block 1 (.seq (.ops [⟨.mv, [.t 0], (some 29), none⟩,
          ⟨.mv, [.t 3], (some 30), none⟩,
          ⟨.ixS, [.t 29, .t 30], (some 31), none⟩,
          ⟨.mv, [.t 31], (some 4), none⟩])
        (.seq (.ops [⟨.mv, [.t 4], (some 32), none⟩,
          ⟨(.bin .geq), [.t 32, .c (.pv (.i .u8 97))], (some 33), none⟩,
          ⟨.mv, [.t 33], (some 34), none⟩,
          ⟨.mv, [.t 4], (some 35), (some (34, true))⟩,
          ⟨(.bin .leq), [.t 35, .c (.pv (.i .u8 122))], (some 36), (some (34, true))⟩,
          ⟨.pick, [.t 34, .t 36, .c (.pv (.b false))], (some 37), none⟩,
          ⟨.mv, [.t 4], (some 38), none⟩,
          ⟨(.bin .geq), [.t 38, .c (.pv (.i .u8 65))], (some 39), none⟩,
          ⟨.mv, [.t 39], (some 40), none⟩,
          ⟨.mv, [.t 4], (some 41), (some (40, true))⟩,
          ⟨(.bin .leq), [.t 41, .c (.pv (.i .u8 90))], (some 42), (some (40, true))⟩,
          ⟨.pick, [.t 40, .t 42, .c (.pv (.b false))], (some 43), none⟩,
          ⟨.mv, [.t 4], (some 44), none⟩,
          ⟨(.bin .geq), [.t 44, .c (.pv (.i .u8 48))], (some 45), none⟩,
          ⟨.mv, [.t 45], (some 46), none⟩,
          ⟨.mv, [.t 4], (some 47), (some (46, true))⟩,
          ⟨(.bin .leq), [.t 47, .c (.pv (.i .u8 57))], (some 48), (some (46, true))⟩,
          ⟨.pick, [.t 46, .t 48, .c (.pv (.b false))], (some 49), none⟩,
          ⟨.mv, [.t 37], (some 5), none⟩,
          ⟨.mv, [.t 43], (some 6), none⟩,
          ⟨.mv, [.t 49], (some 7), none⟩])
        (.seq (.ops [⟨.mv, [.t 5], (some 50), none⟩,
          ⟨(.un .not), [.t 50], (some 51), none⟩,
          ⟨.mv, [.t 51], (some 52), none⟩,
          ⟨.mv, [.t 6], (some 53), (some (52, true))⟩,
          ⟨(.un .not), [.t 53], (some 54), (some (52, true))⟩,
          ⟨.pick, [.t 52, .t 54, .c (.pv (.b false))], (some 55), none⟩,
          ⟨.mv, [.t 55], (some 56), none⟩,
          ⟨.mv, [.t 7], (some 57), (some (56, true))⟩,
          ⟨(.un .not), [.t 57], (some 58), (some (56, true))⟩,
          ⟨.pick, [.t 56, .t 58, .c (.pv (.b false))], (some 59), none⟩,
          ⟨.mv, [.t 59], (some 60), none⟩,
          ⟨.mv, [.t 4], (some 61), (some (60, true))⟩,
          ⟨(.bin .neq), [.t 61, .c (.pv (.i .u8 46))], (some 62), (some (60, true))⟩,
          ⟨.pick, [.t 60, .t 62, .c (.pv (.b false))], (some 63), none⟩,
          ⟨.mv, [.t 63], (some 64), none⟩,
          ⟨.mv, [.t 4], (some 65), (some (64, true))⟩,
          ⟨(.bin .neq), [.t 65, .c (.pv (.i .u8 95))], (some 66), (some (64, true))⟩,
          ⟨.pick, [.t 64, .t 66, .c (.pv (.b false))], (some 67), none⟩,
          ⟨.mv, [.t 67], (some 68), none⟩,
          ⟨.mv, [.t 4], (some 69), (some (68, true))⟩,
          ⟨(.bin .neq), [.t 69, .c (.pv (.i .u8 45))], (some 70), (some (68, true))⟩,
          ⟨.pick, [.t 68, .t 70, .c (.pv (.b false))], (some 71), none⟩])
        (.ite (.t 71) (.seq (.ops [⟨.mv, [.c (.pv (.b false))], (some 2), none⟩])
          .ret)
          .skip)))))
      (.ops [⟨.mv, [.t 3], (some 27), none⟩,
        ⟨(.bin .add), [.t 27, .c (.pv (.i .i64 1))], (some 28), none⟩,
        ⟨.mv, [.t 28], (some 3), none⟩]))))))
  (.seq (.ops [⟨.mv, [.c (.pv (.b true))], (some 2), none⟩])
  .ret))))
theorem fn43 : fnOf Try.prog 43 = some (72, [.t 2], ir43) := by kernel_rfl
def ir44 : C :=
  (.seq (.ops [⟨.box, [.t 0], (some 1), none⟩,
    ⟨.mv, [.c (.pv (.sl true 0 []))], (some 2), none⟩,
    ⟨.mv, [.c (.pv (.i .i64 0))], (some 3), none⟩])
  (.seq (.seq (.ops [⟨(.ld 21 true), [.t 1], (some 4), none⟩,
    ⟨(.call 40), [.t 4], (some 5), none⟩,
    ⟨(.un .not), [.t 5], (some 6), none⟩])
  (.ite (.t 6) (.seq (.ops [⟨.mv, [.c (.pv (.sl true 0 []))], (some 2), none⟩,
      ⟨.mv, [.c (.pv (.i .i64 7))], (some 3), none⟩])
    .ret)
    .skip))
  (.seq (.any [11, 16, 20, 24, 27, 30, 33, 36, 39, 43, 46, 50, 51, 52] [(⟨(.fa 0), [.t 1], (some 7), none⟩, 0, [11, 16, 20, 24, 27, 30, 33, 36, 39, 43, 46, 50, 51, 52]),
    (⟨(.fa 0), [.t 7], (some 8), none⟩, 0, [11, 16, 20, 24, 27, 30, 33, 36, 39, 43, 46, 50, 51, 52]),
    (⟨(.ld 1 false), [.t 8], (some 9), none⟩, 1, [11, 16, 20, 24, 27, 30, 33, 36, 39, 43, 46, 50, 51, 52]),
    (⟨(.cvI .u64), [.t 9], (some 10), none⟩, 0, [11, 16, 20, 24, 27, 30, 33, 36, 39, 43, 46, 50, 51, 52]),
    (⟨(.call 89), [.t 10], (some 11), none⟩, 1, [11, 16, 20, 24, 27, 30, 33, 36, 39, 43, 46, 50, 51, 52]),
    (⟨(.fa 0), [.t 1], (some 12), none⟩, 0, [11, 16, 20, 24, 27, 30, 33, 36, 39, 43, 46, 50, 51, 52]),
    (⟨(.fa 1), [.t 12], (some 13), none⟩, 0, [11, 16, 20, 24, 27, 30, 33, 36, 39, 43, 46, 50, 51, 52]),
    (⟨(.ld 1 false), [.t 13], (some 14), none⟩, 1, [11, 16, 20, 24, 27, 30, 33, 36, 39, 43, 46, 50, 51, 52]),
    (⟨(.cvI .u64), [.t 14], (some 15), none⟩, 0, [11, 16, 20, 24, 27, 30, 33, 36, 39, 43, 46, 50, 51, 52]),
    (⟨(.call 89), [.t 15], (some 16), none⟩, 1, [16, 20, 24, 27, 30, 33, 36, 39, 43, 46, 50, 51, 52]),
    (⟨(.fa 2), [.t 1], (some 17), none⟩, 0, [11, 16, 20, 24, 27, 30, 33, 36, 39, 43, 46, 50, 51, 52]),
    (⟨(.ld 8 true), [.t 17], (some 18), none⟩, 1, [11, 16, 20, 24, 27, 30, 33, 36, 39, 43, 46, 50, 51, 52]),
    (⟨(.bldV 8 1), [.c (.pv (.i .u32 0)), .c (.pv (.i .u32 0)), .c (.pv (.i .u32 0)), .c (.pv (.i .u32 0)), .c (.pv (.i .u32 0)), .c (.pv (.i .u32 0)), .c (.pv (.i .u32 0)), .c (.pv (.i .u32 0))], (some 19), none⟩, 0, [11, 16, 20, 24, 27, 30, 33, 36, 39, 43, 46, 50, 51, 52]),
    (⟨(.call 16), [.t 18, .t 19], (some 20), none⟩, 1, [11, 20, 24, 27, 30, 33, 36, 39, 43, 46, 50, 51, 52]),
    (⟨(.fa 10), [.t 1], (some 21), none⟩, 0, [11, 16, 20, 24, 27, 30, 33, 36, 39, 43, 46, 50, 51, 52]),
    (⟨(.ld 1 false), [.t 21], (some 22), none⟩, 1, [11, 16, 20, 24, 27, 30, 33, 36, 39, 43, 46, 50, 51, 52]),
    (⟨(.cvI .u64), [.t 22], (some 23), none⟩, 0, [11, 16, 20, 24, 27, 30, 33, 36, 39, 43, 46, 50, 51, 52]),
    (⟨(.call 89), [.t 23], (some 24), none⟩, 1, [11, 16, 24, 27, 30, 33, 36, 39, 43, 46, 50, 51, 52]),
    (⟨(.fa 11), [.t 1], (some 25), none⟩, 0, [11, 16, 20, 24, 27, 30, 33, 36, 39, 43, 46, 50, 51, 52]),
    (⟨(.ld 2 true), [.t 25], (some 26), none⟩, 1, [11, 16, 20, 24, 27, 30, 33, 36, 39, 43, 46, 50, 51, 52]),
    (⟨(.call 90), [.t 26], (some 27), none⟩, 1, [11, 16, 20, 27, 30, 33, 36, 39, 43, 46, 50, 51, 52]),
    (⟨(.fa 13), [.t 1], (some 28), none⟩, 0, [11, 16, 20, 24, 27, 30, 33, 36, 39, 43, 46, 50, 51, 52]),
    (⟨(.ld 2 true), [.t 28], (some 29), none⟩, 1, [11, 16, 20, 24, 27, 30, 33, 36, 39, 43, 46, 50, 51, 52]),
    (⟨(.call 90), [.t 29], (some 30), none⟩, 1, [11, 16, 20, 24, 30, 33, 36, 39, 43, 46, 50, 51, 52]),
    (⟨(.fa 15), [.t 1], (some 31), none⟩, 0, [11, 16, 20, 24, 27, 30, 33, 36, 39, 43, 46, 50, 51, 52]),
    (⟨(.ld 1 false), [.t 31], (some 32), none⟩, 1, [11, 16, 20, 24, 27, 30, 33, 36, 39, 43, 46, 50, 51, 52]),
    (⟨.s2b, [.t 32], (some 33), none⟩, 1, [11, 16, 20, 24, 27, 30, 33, 36, 39, 43, 46, 50, 51, 52]),
    (⟨(.fa 16), [.t 1], (some 34), none⟩, 0, [11, 16, 20, 24, 27, 30, 33, 36, 39, 43, 46, 50, 51, 52]),
    (⟨(.ld 1 false), [.t 34], (some 35), none⟩, 1, [11, 16, 20, 24, 27, 30, 33, 36, 39, 43, 46, 50, 51, 52]),
    (⟨(.call 91), [.t 35], (some 36), none⟩, 1, [11, 16, 20, 24, 27, 33, 36, 39, 43, 46, 50, 51, 52]),
    (⟨(.fa 17), [.t 1], (some 37), none⟩, 0, [11, 16, 20, 24, 27, 30, 33, 36, 39, 43, 46, 50, 51, 52]),
    (⟨(.ld 1 false), [.t 37], (some 38), none⟩, 1, [11, 16, 20, 24, 27, 30, 33, 36, 39, 43, 46, 50, 51, 52]),
    (⟨(.call 91), [.t 38], (some 39), none⟩, 1, [11, 16, 20, 24, 27, 30, 33, 39, 43, 46, 50, 51, 52]),
    (⟨(.fa 18), [.t 1], (some 40), none⟩, 0, [11, 16, 20, 24, 27, 30, 33, 36, 39, 43, 46, 50, 51, 52]),
    (⟨(.ld 1 false), [.t 40], (some 41), none⟩, 1, [11, 16, 20, 24, 27, 30, 33, 36, 39, 43, 46, 50, 51, 52]),
    (⟨(.cvI .u64), [.t 41], (some 42), none⟩, 0, [11, 16, 20, 24, 27, 30, 33, 36, 39, 43, 46, 50, 51, 52]),
    (⟨(.call 89), [.t 42], (some 43), none⟩, 1, [11, 16, 20, 24, 27, 30, 33, 36, 43, 46, 50, 51, 52]),
    (⟨(.fa 19), [.t 1], (some 44), none⟩, 0, [11, 16, 20, 24, 27, 30, 33, 36, 39, 43, 46, 50, 51, 52]),
    (⟨(.ld 1 false), [.t 44], (some 45), none⟩, 1, [11, 16, 20, 24, 27, 30, 33, 36, 39, 43, 46, 50, 51, 52]),
    (⟨.s2b, [.t 45], (some 46), none⟩, 1, [11, 16, 20, 24, 27, 30, 33, 36, 39, 43, 46, 50, 51, 52]),
    (⟨(.fa 20), [.t 1], (some 47), none⟩, 0, [11, 16, 20, 24, 27, 30, 33, 36, 39, 43, 46, 50, 51, 52]),
    (⟨(.ld 1 false), [.t 47], (some 48), none⟩, 1, [11, 16, 20, 24, 27, 30, 33, 36, 39, 43, 46, 50, 51, 52]),
    (⟨(.cvI .u64), [.t 48], (some 49), none⟩, 0, [11, 16, 20, 24, 27, 30, 33, 36, 39, 43, 46, 50, 51, 52]),
    (⟨(.call 89), [.t 49], (some 50), none⟩, 1, [11, 16, 20, 24, 27, 30, 33, 36, 39, 46, 50, 51, 52]),
    (⟨(.bsl 1), [.t 11, .t 16, .t 20, .t 24, .t 27, .t 30, .t 33, .t 36, .t 39, .t 43, .t 46, .t 50], (some 51), none⟩, 3, [51, 52]),
    (⟨(.call 88), [.t 51], (some 52), none⟩, 1, [11, 16, 20, 24, 27, 30, 33, 36, 39, 43, 46, 52]),
    (⟨(.ext 0), [.t 52], (some 53), none⟩, 0, [11, 16, 20, 24, 27, 30, 33, 36, 39, 43, 46, 50, 51]),
    (⟨(.ext 1), [.t 52], (some 54), none⟩, 0, [11, 16, 20, 24, 27, 30, 33, 36, 39, 43, 46, 50, 51]),
    (⟨.mv, [.t 53], (some 2), none⟩, 0, []),
    (⟨.mv, [.t 54], (some 3), none⟩, 0, [])])
  .ret)))
theorem fn44 : fnOf Try.prog 44 = some (55, [.t 2, .t 3], ir44) := by kernel_rfl
def ir45 : C :=
  (.seq (.ops [⟨(.new (.agg [.pv (.i .i64 0), .pv (.i .u32 0), .vec 8 (List.replicate 8 (.i .u32 0)), .pv (.i .i64 0), .pv (.i .i64 0), .pv (.i .u32 0), .pv (.i .i64 0), .pv (.i .u32 0), .pv (.s []), .pv (.sl true 0 []), .pv (.sl true 0 []), .pv (.i .i64 0), .pv (.s []), .pv (.i .i64 0)])), [], (some 2), none⟩,
    ⟨.mv, [.c (.pv (.i .i64 0))], (some 3), none⟩])
  (.seq (.ops [⟨.mv, [.t 0], (some 13), none⟩,
    ⟨(.call 92), [.t 13, .c (.pv (.i .i64 12))], (some 14), none⟩,
    ⟨.mv, [.t 14], (some 12), none⟩,
    ⟨(.ext 0), [.t 12], (some 15), none⟩,
    ⟨(.ext 1), [.t 12], (some 16), none⟩,
    ⟨.mv, [.t 15], (some 4), none⟩,
    ⟨.mv, [.t 16], (some 5), none⟩])
  (.seq (.seq (.ops [⟨.mv, [.t 5], (some 17), none⟩,
    ⟨(.bin .neq), [.t 17, .c (.pv (.i .i64 0))], (some 18), none⟩])
  (.ite (.t 18) (.seq (.ops [⟨(.bld [2, 8, 1, 2, 2, 1, 1, 1, 1, 1, 1]), [.c (.agg [.pv (.i .i64 0), .pv (.i .u32 0)]), .c (.vec 8 (List.replicate 8 (.i .u32 0))), .c (.pv (.i .i64 0)), .c (.agg [.pv (.i .i64 0), .pv (.i .u32 0)]), .c (.agg [.pv (.i .i64 0), .pv (.i .u32 0)]), .c (.pv (.s [])), .c (.pv (.sl true 0 [])), .c (.pv (.sl true 0 [])), .c (.pv (.i .i64 0)), .c (.pv (.s [])), .c (.pv (.i .i64 0))], (some 19), none⟩,
      ⟨.mv, [.t 5], (some 20), none⟩,
      ⟨(.sto 21), [.t 2, .t 19], none, none⟩,
      ⟨.mv, [.t 20], (some 3), none⟩])
    .ret)
    .skip))
  (.seq (.seq (.ops [⟨.mv, [.t 4], (some 21), none⟩,
    ⟨.len, [.t 21], (some 22), none⟩,
    ⟨(.bin .neq), [.t 22, .c (.pv (.i .i64 12))], (some 23), none⟩])
  (.ite (.t 23) (.seq (.ops [⟨(.bld [2, 8, 1, 2, 2, 1, 1, 1, 1, 1, 1]), [.c (.agg [.pv (.i .i64 0), .pv (.i .u32 0)]), .c (.vec 8 (List.replicate 8 (.i .u32 0))), .c (.pv (.i .i64 0)), .c (.agg [.pv (.i .i64 0), .pv (.i .u32 0)]), .c (.agg [.pv (.i .i64 0), .pv (.i .u32 0)]), .c (.pv (.s [])), .c (.pv (.sl true 0 [])), .c (.pv (.sl true 0 [])), .c (.pv (.i .i64 0)), .c (.pv (.s [])), .c (.pv (.i .i64 0))], (some 24), none⟩,
      ⟨(.sto 21), [.t 2, .t 24], none, none⟩,
      ⟨.mv, [.c (.pv (.i .i64 8))], (some 3), none⟩])
    .ret)
    .skip))
  (.seq (.any [28, 32, 36, 44, 52, 6] [(⟨.mv, [.t 4], (some 25), none⟩, 0, [28, 32, 36, 44, 52, 6]),
    (⟨(.iaS 1), [.t 25, .c (.pv (.i .i64 3))], (some 26), none⟩, 1, [28, 32, 36, 44, 52, 6]),
    (⟨(.ld 1 false), [.t 26], (some 27), none⟩, 1, [28, 32, 36, 44, 52, 6]),
    (⟨(.call 93), [.t 27], (some 28), none⟩, 1, [28, 32, 36, 44, 52, 6]),
    (⟨.mv, [.t 4], (some 29), none⟩, 0, [28, 32, 36, 44, 52, 6]),
    (⟨(.iaS 1), [.t 29, .c (.pv (.i .i64 4))], (some 30), none⟩, 1, [28, 32, 36, 44, 52, 6]),
    (⟨(.ld 1 false), [.t 30], (some 31), none⟩, 1, [28, 32, 36, 44, 52, 6]),
    (⟨(.call 94), [.t 31], (some 32), none⟩, 1, [32, 36, 44, 52, 6]),
    (⟨.mv, [.t 4], (some 33), none⟩, 0, [28, 32, 36, 44, 52, 6]),
    (⟨(.iaS 1), [.t 33, .c (.pv (.i .i64 5))], (some 34), none⟩, 1, [28, 32, 36, 44, 52, 6]),
    (⟨(.ld 1 false), [.t 34], (some 35), none⟩, 1, [28, 32, 36, 44, 52, 6]),
    (⟨(.call 94), [.t 35], (some 36), none⟩, 1, [28, 36, 44, 52, 6]),
    (⟨.mv, [.t 4], (some 37), none⟩, 0, [28, 32, 36, 44, 52, 6]),
    (⟨(.iaS 1), [.t 37, .c (.pv (.i .i64 6))], (some 38), none⟩, 1, [28, 32, 36, 44, 52, 6]),
    (⟨(.ld 1 false), [.t 38], (some 39), none⟩, 1, [28, 32, 36, 44, 52, 6]),
    (⟨.b2s, [.t 39], (some 40), none⟩, 1, [28, 32, 36, 44, 52, 6]),
    (⟨.mv, [.t 4], (some 41), none⟩, 0, [28, 32, 36, 44, 52, 6]),
    (⟨(.iaS 1), [.t 41, .c (.pv (.i .i64 9))], (some 42), none⟩, 1, [28, 32, 36, 44, 52, 6]),
    (⟨(.ld 1 false), [.t 42], (some 43), none⟩, 1, [28, 32, 36, 44, 52, 6]),
    (⟨(.call 93), [.t 43], (some 44), none⟩, 1, [28, 32, 44, 52, 6]),
    (⟨.mv, [.t 4], (some 45), none⟩, 0, [28, 32, 36, 44, 52, 6]),
    (⟨(.iaS 1), [.t 45, .c (.pv (.i .i64 10))], (some 46), none⟩, 1, [28, 32, 36, 44, 52, 6]),
    (⟨(.ld 1 false), [.t 46], (some 47), none⟩, 1, [28, 32, 36, 44, 52, 6]),
    (⟨.b2s, [.t 47], (some 48), none⟩, 1, [28, 32, 36, 44, 52, 6]),
    (⟨.mv, [.t 4], (some 49), none⟩, 0, [28, 32, 36, 44, 52, 6]),
    (⟨(.iaS 1), [.t 49, .c (.pv (.i .i64 11))], (some 50), none⟩, 1, [28, 32, 36, 44, 52, 6]),
    (⟨(.ld 1 false), [.t 50], (some 51), none⟩, 1, [28, 32, 36, 44, 52, 6]),
    (⟨(.call 93), [.t 51], (some 52), none⟩, 1, [28, 32, 36, 52, 6]),
    (⟨(.bld [2, 8, 1, 2, 2, 1, 1, 1, 1, 1, 1]), [.c (.agg [.pv (.i .i64 0), .pv (.i .u32 0)]), .c (.vec 8 (List.replicate 8 (.i .u32 0))), .t 28, .t 32, .t 36, .t 40, .c (.pv (.sl true 0 [])), .c (.pv (.sl true 0 [])), .t 44, .t 48, .t 52], (some 53), none⟩, 0, [6]),
    (⟨(.new (.agg [.pv (.i .i64 0), .pv (.i .u32 0), .vec 8 (List.replicate 8 (.i .u32 0)), .pv (.i .i64 0), .pv (.i .i64 0), .pv (.i .u32 0), .pv (.i .i64 0), .pv (.i .u32 0), .pv (.s []), .pv (.sl true 0 []), .pv (.sl true 0 []), .pv (.i .i64 0), .pv (.s []), .pv (.i .i64 0)])), [], (some 6), none⟩, 1, [28, 32, 36, 44, 52, 6]),
    (⟨(.sto 21), [.t 6, .t 53], none, none⟩, 2, [])])
  (.seq (.any [57, 61] [(⟨.mv, [.t 4], (some 54), none⟩, 0, [57, 61]),
    (⟨(.iaS 1), [.t 54, .c (.pv (.i .i64 0))], (some 55), none⟩, 1, [57, 61]),
    (⟨(.ld 1 false), [.t 55], (some 56), none⟩, 1, [57, 61]),
    (⟨(.call 93), [.t 56], (some 57), none⟩, 1, [57, 61]),
    (⟨.mv, [.t 4], (some 58), none⟩, 0, [57, 61]),
    (⟨(.iaS 1), [.t 58, .c (.pv (.i .i64 1))], (some 59), none⟩, 1, [57, 61]),
    (⟨(.ld 1 false), [.t 59], (some 60), none⟩, 1, [57, 61]),
    (⟨(.call 93), [.t 60], (some 61), none⟩, 1, [61]),
    (⟨.mx, [.c (.pv (.i .i64 0)), .t 61], (some 62), none⟩, 0, [57]),
    (⟨(.cvI .u32), [.t 62], (some 63), none⟩, 0, [57, 61]),
    (⟨(.bld [1, 1]), [.t 57, .t 63], (some 64), none⟩, 0, [61]),
    (⟨(.fa 0), [.t 6], (some 65), none⟩, 0, []),
    (⟨(.sto 2), [.t 65, .t 64], none, none⟩, 2, [])])
  (.seq (.ops [⟨.mv, [.c (.pv (.i .i64 0))], (some 7), none⟩,
    ⟨.mv, [.c (.pv (.i .i64 0))], (some 8), none⟩,
    ⟨.mv, [.c (.pv (.i .i64 0))], (some 9), none⟩])
  (.seq (.ops [⟨.mv, [.t 4], (some 67), none⟩,
    ⟨(.iaS 1), [.t 67, .c (.pv (.i .i64 2))], (some 68), none⟩,
    ⟨(.ld 1 false), [.t 68], (some 69), none⟩,
    ⟨(.bldV 8 1), [.c (.pv (.i .u32 0)), .c (.pv (.i .u32 0)), .c (.pv (.i .u32 0)), .c (.pv (.i .u32 0)), .c (.pv (.i .u32 0)), .c (.pv (.i .u32 0)), .c (.pv (.i .u32 0)), .c (.pv (.i .u32 0))], (some 70), none⟩,
    ⟨(.call 57), [.t 69, .t 70], (some 71), none⟩,
    ⟨.mv, [.t 71], (some 66), none⟩,
    ⟨(.ext 0), [.t 66], (some 72), none⟩,
    ⟨(.ext 1), [.t 66], (some 73), none⟩,
    ⟨(.fa 2), [.t 6], (some 74), none⟩,
    ⟨(.sto 8), [.t 74, .t 72], none, none⟩,
    ⟨.mv, [.t 73], (some 7), none⟩])
  (.seq (.ops [⟨.mv, [.t 4], (some 76), none⟩,
    ⟨(.iaS 1), [.t 76, .c (.pv (.i .i64 7))], (some 77), none⟩,
    ⟨(.ld 1 false), [.t 77], (some 78), none⟩,
    ⟨(.call 95), [.t 78, .c (.pv (.i .i64 8))], (some 79), none⟩,
    ⟨.mv, [.t 79], (some 75), none⟩,
    ⟨(.ext 0), [.t 75], (some 80), none⟩,
    ⟨(.ext 1), [.t 75], (some 81), none⟩,
    ⟨(.fa 16), [.t 6], (some 82), none⟩,
    ⟨(.sto 1), [.t 82, .t 80], none, none⟩,
    ⟨.mv, [.t 81], (some 8), none⟩])
  (.seq (.ops [⟨.mv, [.t 4], (some 84), none⟩,
    ⟨(.iaS 1), [.t 84, .c (.pv (.i .i64 8))], (some 85), none⟩,
    ⟨(.ld 1 false), [.t 85], (some 86), none⟩,
    ⟨(.call 95), [.t 86, .c (.pv (.i .i64 8))], (some 87), none⟩,
    ⟨.mv, [.t 87], (some 83), none⟩,
    ⟨(.ext 0), [.t 83], (some 88), none⟩,
    ⟨(.ext 1), [.t 83], (some 89), none⟩,
    ⟨(.fa 17), [.t 6], (some 90), none⟩,
    ⟨(.sto 1), [.t 90, .t 88], none, none⟩,
    ⟨.mv, [.t 89], (some 9), none⟩])
  (.seq (.seq (.ops [⟨.mv, [.t 7], (some 91), none⟩,
    ⟨(.bin .neq), [.t 91, .c (.pv (.i .i64 0))], (some 92), none⟩,
    ⟨.mv, [.t 92], (some 93), none⟩,
    ⟨.mv, [.t 8], (some 94), (some (93, false))⟩,
    ⟨(.bin .neq), [.t 94, .c (.pv (.i .i64 0))], (some 95), (some (93, false))⟩,
    ⟨.pick, [.t 93, .c (.pv (.b true)), .t 95], (some 96), none⟩,
    ⟨.mv, [.t 96], (some 97), none⟩,
    ⟨.mv, [.t 9], (some 98), (some (97, false))⟩,
    ⟨(.bin .neq), [.t 98, .c (.pv (.i .i64 0))], (some 99), (some (97, false))⟩,
    ⟨.pick, [.t 97, .c (.pv (.b true)), .t 99], (some 100), none⟩])
  (.ite (.t 100) (.seq (.ops [⟨(.bld [2, 8, 1, 2, 2, 1, 1, 1, 1, 1, 1]), [.c (.agg [.pv (.i .i64 0), .pv (.i .u32 0)]), .c (.vec 8 (List.replicate 8 (.i .u32 0))), .c (.pv (.i .i64 0)), .c (.agg [.pv (.i .i64 0), .pv (.i .u32 0)]), .c (.agg [.pv (.i .i64 0), .pv (.i .u32 0)]), .c (.pv (.s [])), .c (.pv (.sl true 0 [])), .c (.pv (.sl true 0 [])), .c (.pv (.i .i64 0)), .c (.pv (.s [])), .c (.pv (.i .i64 0))], (some 101), none⟩,
      ⟨(.sto 21), [.t 2, .t 101], none, none⟩,
      ⟨.mv, [.c (.pv (.i .i64 7))], (some 3), none⟩])
    .ret)
    .skip))
  (.seq (.seq (.ops [⟨(.ld 21 true), [.t 6], (some 103), none⟩,
    ⟨(.call 44), [.t 103], (some 104), none⟩,
    ⟨.mv, [.t 104], (some 102), none⟩,
    ⟨(.ext 0), [.t 102], (some 105), none⟩,
    ⟨(.ext 1), [.t 102], (some 106), none⟩,
    ⟨.mv, [.t 105], (some 10), none⟩,
    ⟨.mv, [.t 106], (some 11), none⟩])
  (.seq (.ops [⟨.mv, [.t 11], (some 107), none⟩,
    ⟨(.bin .neq), [.t 107, .c (.pv (.i .i64 0))], (some 108), none⟩,
    ⟨.mv, [.t 108], (some 109), none⟩,
    ⟨.mv, [.t 10], (some 110), (some (109, false))⟩,
    ⟨.mv, [.t 0], (some 111), (some (109, false))⟩,
    ⟨(.call 96), [.t 110, .t 111], (some 112), (some (109, false))⟩,
    ⟨(.un .not), [.t 112], (some 113), (some (109, false))⟩,
    ⟨.pick, [.t 109, .c (.pv (.b true)), .t 113], (some 114), none⟩])
  (.ite (.t 114) (.seq (.ops [⟨(.bld [2, 8, 1, 2, 2, 1, 1, 1, 1, 1, 1]), [.c (.agg [.pv (.i .i64 0), .pv (.i .u32 0)]), .c (.vec 8 (List.replicate 8 (.i .u32 0))), .c (.pv (.i .i64 0)), .c (.agg [.pv (.i .i64 0), .pv (.i .u32 0)]), .c (.agg [.pv (.i .i64 0), .pv (.i .u32 0)]), .c (.pv (.s [])), .c (.pv (.sl true 0 [])), .c (.pv (.sl true 0 [])), .c (.pv (.i .i64 0)), .c (.pv (.s [])), .c (.pv (.i .i64 0))], (some 115), none⟩,
      ⟨(.sto 21), [.t 2, .t 115], none, none⟩,
      ⟨.mv, [.c (.pv (.i .i64 7))], (some 3), none⟩])
    .ret)
    .skip)))
  (.seq (.ops [⟨(.ld 21 true), [.t 6], (some 116), none⟩,
    ⟨(.sto 21), [.t 2, .t 116], none, none⟩,
    ⟨.mv, [.c (.pv (.i .i64 0))], (some 3), none⟩])
  .ret)))))))))))))
theorem fn45 : fnOf Try.prog 45 = some (117, [.c 2 21 true, .t 3], ir45) := by kernel_rfl
def ir46 : C :=
  (.seq (.ops [⟨.box, [.t 0], (some 1), none⟩,
    ⟨.mv, [.c (.pv (.s []))], (some 2), none⟩])
  (.seq (.any [10, 15, 19, 23, 26, 29, 34, 37, 41, 47, 48, 49] [(⟨(.fa 0), [.t 1], (some 6), none⟩, 0, [10, 15, 19, 23, 26, 29, 34, 37, 41, 47, 48, 49]),
    (⟨(.fa 0), [.t 6], (some 7), none⟩, 0, [10, 15, 19, 23, 26, 29, 34, 37, 41, 47, 48, 49]),
    (⟨(.ld 1 false), [.t 7], (some 8), none⟩, 1, [10, 15, 19, 23, 26, 29, 34, 37, 41, 47, 48, 49]),
    (⟨(.cvI .u64), [.t 8], (some 9), none⟩, 0, [10, 15, 19, 23, 26, 29, 34, 37, 41, 47, 48, 49]),
    (⟨(.call 98), [.t 9], (some 10), none⟩, 1, [10, 15, 19, 23, 26, 29, 34, 37, 41, 47, 48, 49]),
    (⟨(.fa 0), [.t 1], (some 11), none⟩, 0, [10, 15, 19, 23, 26, 29, 34, 37, 41, 47, 48, 49]),
    (⟨(.fa 1), [.t 11], (some 12), none⟩, 0, [10, 15, 19, 23, 26, 29, 34, 37, 41, 47, 48, 49]),
    (⟨(.ld 1 false), [.t 12], (some 13), none⟩, 1, [10, 15, 19, 23, 26, 29, 34, 37, 41, 47, 48, 49]),
    (⟨(.cvI .u64), [.t 13], (some 14), none⟩, 0, [10, 15, 19, 23, 26, 29, 34, 37, 41, 47, 48, 49]),
    (⟨(.call 98), [.t 14], (some 15), none⟩, 1, [15, 19, 23, 26, 29, 34, 37, 41, 47, 48, 49]),
    (⟨(.fa 2), [.t 1], (some 16), none⟩, 0, [10, 15, 19, 23, 26, 29, 34, 37, 41, 47, 48, 49]),
    (⟨(.ld 8 true), [.t 16], (some 17), none⟩, 1, [10, 15, 19, 23, 26, 29, 34, 37, 41, 47, 48, 49]),
    (⟨(.bldV 8 1), [.c (.pv (.i .u32 0)), .c (.pv (.i .u32 0)), .c (.pv (.i .u32 0)), .c (.pv (.i .u32 0)), .c (.pv (.i .u32 0)), .c (.pv (.i .u32 0)), .c (.pv (.i .u32 0)), .c (.pv (.i .u32 0))], (some 18), none⟩, 0, [10, 15, 19, 23, 26, 29, 34, 37, 41, 47, 48, 49]),
    (⟨(.call 99), [.t 17, .t 18], (some 19), none⟩, 1, [10, 19, 23, 26, 29, 34, 37, 41, 47, 48, 49]),
    (⟨(.fa 10), [.t 1], (some 20), none⟩, 0, [10, 15, 19, 23, 26, 29, 34, 37, 41, 47, 48, 49]),
    (⟨(.ld 1 false), [.t 20], (some 21), none⟩, 1, [10, 15, 19, 23, 26, 29, 34, 37, 41, 47, 48, 49]),
    (⟨(.cvI .u64), [.t 21], (some 22), none⟩, 0, [10, 15, 19, 23, 26, 29, 34, 37, 41, 47, 48, 49]),
    (⟨(.call 98), [.t 22], (some 23), none⟩, 1, [10, 15, 23, 26, 29, 34, 37, 41, 47, 48, 49]),
    (⟨(.fa 11), [.t 1], (some 24), none⟩, 0, [10, 15, 19, 23, 26, 29, 34, 37, 41, 47, 48, 49]),
    (⟨(.ld 2 true), [.t 24], (some 25), none⟩, 1, [10, 15, 19, 23, 26, 29, 34, 37, 41, 47, 48, 49]),
    (⟨(.call 100), [.t 25], (some 26), none⟩, 1, [10, 15, 19, 26, 29, 34, 37, 41, 47, 48, 49]),
    (⟨(.fa 13), [.t 1], (some 27), none⟩, 0, [10, 15, 19, 23, 26, 29, 34, 37, 41, 47, 48, 49]),
    (⟨(.ld 2 true), [.t 27], (some 28), none⟩, 1, [10, 15, 19, 23, 26, 29, 34, 37, 41, 47, 48, 49]),
    (⟨(.call 100), [.t 28], (some 29), none⟩, 1, [10, 15, 19, 23, 29, 34, 37, 41, 47, 48, 49]),
    (⟨(.fa 15), [.t 1], (some 30), none⟩, 0, [10, 15, 19, 23, 26, 29, 34, 37, 41, 47, 48, 49]),
    (⟨(.ld 1 false), [.t 30], (some 31), none⟩, 1, [10, 15, 19, 23, 26, 29, 34, 37, 41, 47, 48, 49]),
    (⟨(.fa 16), [.t 1], (some 32), none⟩, 0, [10, 15, 19, 23, 26, 29, 34, 37, 41, 47, 48, 49]),
    (⟨(.ld 1 false), [.t 32], (some 33), none⟩, 1, [10, 15, 19, 23, 26, 29, 34, 37, 41, 47, 48, 49]),
    (⟨(.call 101), [.t 33], (some 34), none⟩, 1, [10, 15, 19, 23, 26, 34, 37, 41, 47, 48, 49]),
    (⟨(.fa 17), [.t 1], (some 35), none⟩, 0, [10, 15, 19, 23, 26, 29, 34, 37, 41, 47, 48, 49]),
    (⟨(.ld 1 false), [.t 35], (some 36), none⟩, 1, [10, 15, 19, 23, 26, 29, 34, 37, 41, 47, 48, 49]),
    (⟨(.call 101), [.t 36], (some 37), none⟩, 1, [10, 15, 19, 23, 26, 29, 37, 41, 47, 48, 49]),
    (⟨(.fa 18), [.t 1], (some 38), none⟩, 0, [10, 15, 19, 23, 26, 29, 34, 37, 41, 47, 48, 49]),
    (⟨(.ld 1 false), [.t 38], (some 39), none⟩, 1, [10, 15, 19, 23, 26, 29, 34, 37, 41, 47, 48, 49]),
    (⟨(.cvI .u64), [.t 39], (some 40), none⟩, 0, [10, 15, 19, 23, 26, 29, 34, 37, 41, 47, 48, 49]),
    (⟨(.call 98), [.t 40], (some 41), none⟩, 1, [10, 15, 19, 23, 26, 29, 34, 41, 47, 48, 49]),
    (⟨(.fa 19), [.t 1], (some 42), none⟩, 0, [10, 15, 19, 23, 26, 29, 34, 37, 41, 47, 48, 49]),
    (⟨(.ld 1 false), [.t 42], (some 43), none⟩, 1, [10, 15, 19, 23, 26, 29, 34, 37, 41, 47, 48, 49]),
    (⟨(.fa 20), [.t 1], (some 44), none⟩, 0, [10, 15, 19, 23, 26, 29, 34, 37, 41, 47, 48, 49]),
    (⟨(.ld 1 false), [.t 44], (some 45), none⟩, 1, [10, 15, 19, 23, 26, 29, 34, 37, 41, 47, 48, 49]),
    (⟨(.cvI .u64), [.t 45], (some 46), none⟩, 0, [10, 15, 19, 23, 26, 29, 34, 37, 41, 47, 48, 49]),
    (⟨(.call 98), [.t 46], (some 47), none⟩, 1, [10, 15, 19, 23, 26, 29, 34, 37, 47, 48, 49]),
    (⟨(.bsl 1), [.t 10, .t 15, .t 19, .t 23, .t 26, .t 29, .t 31, .t 34, .t 37, .t 41, .t 43, .t 47], (some 48), none⟩, 3, [48, 49]),
    (⟨(.call 97), [.t 48], (some 49), none⟩, 1, [10, 15, 19, 23, 26, 29, 34, 37, 41, 49]),
    (⟨.mv, [.t 49], (some 5), none⟩, 0, [10, 15, 19, 23, 26, 29, 34, 37, 41, 47, 48]),
    (⟨(.ext 0), [.t 5], (some 50), none⟩, 0, [10, 15, 19, 23, 26, 29, 34, 37, 41, 47, 48, 49]),
    (⟨(.ext 1), [.t 5], (some 51), none⟩, 0, [10, 15, 19, 23, 26, 29, 34, 37, 41, 47, 48, 49]),
    (⟨.mv, [.t 50], (some 3), none⟩, 0, []),
    (⟨.mv, [.t 51], (some 4), none⟩, 0, [])])
  (.seq (.ops [⟨.mv, [.t 3], (some 52), none⟩,
    ⟨.mv, [.t 52], (some 2), none⟩])
  .ret)))
theorem fn46 : fnOf Try.prog 46 = some (53, [.t 2], ir46) := by kernel_rfl
def ir47 : C :=
  (.seq (.ops [⟨.box, [.t 0], (some 2), none⟩,
    ⟨.box, [.t 1], (some 3), none⟩,
    ⟨.mv, [.c (.pv (.b false))], (some 4), none⟩])
  (.seq (.ops [⟨(.fa 0), [.t 2], (some 5), none⟩,
    ⟨(.ld 2 true), [.t 5], (some 6), none⟩,
    ⟨(.fa 0), [.t 3], (some 7), none⟩,
    ⟨(.ld 2 true), [.t 7], (some 8), none⟩,
    ⟨(.eqv false [.int .i64, .int .u32]), [.t 6, .t 8], (some 9), none⟩,
    ⟨.mv, [.t 9], (some 10), none⟩,
    ⟨(.fa 2), [.t 2], (some 11), (some (10, true))⟩,
    ⟨(.ld 8 true), [.t 11], (some 12), (some (10, true))⟩,
    ⟨(.fa 2), [.t 3], (some 13), (some (10, true))⟩,
    ⟨(.ld 8 true), [.t 13], (some 14), (some (10, true))⟩,
    ⟨(.eqv false [.int .u32, .int .u32, .int .u32, .int .u32, .int .u32, .int .u32, .int .u32, .int .u32]), [.t 12, .t 14], (some 15), (some (10, true))⟩,
    ⟨.pick, [.t 10, .t 15, .c (.pv (.b false))], (some 16), none⟩,
    ⟨.mv, [.t 16], (some 17), none⟩,
    ⟨(.fa 10), [.t 2], (some 18), (some (17, true))⟩,
    ⟨(.ld 1 false), [.t 18], (some 19), (some (17, true))⟩,
    ⟨(.fa 10), [.t 3], (some 20), (some (17, true))⟩,
    ⟨(.ld 1 false), [.t 20], (some 21), (some (17, true))⟩,
    ⟨(.bin .eql), [.t 19, .t 21], (some 22), (some (17, true))⟩,
    ⟨.pick, [.t 17, .t 22, .c (.pv (.b false))], (some 23), none⟩,
    ⟨.mv, [.t 23], (some 24), none⟩,
    ⟨(.fa 11), [.t 2], (some 25), (some (24, true))⟩,
    ⟨(.ld 2 true), [.t 25], (some 26), (some (24, true))⟩,
    ⟨(.fa 11), [.t 3], (some 27), (some (24, true))⟩,
    ⟨(.ld 2 true), [.t 27], (some 28), (some (24, true))⟩,
    ⟨(.eqv false [.int .i64, .int .u32]), [.t 26, .t 28], (some 29), (some (24, true))⟩,
    ⟨.pick, [.t 24, .t 29, .c (.pv (.b false))], (some 30), none⟩,
    ⟨.mv, [.t 30], (some 31), none⟩,
    ⟨(.fa 13), [.t 2], (some 32), (some (31, true))⟩,
    ⟨(.ld 2 true), [.t 32], (some 33), (some (31, true))⟩,
    ⟨(.fa 13), [.t 3], (some 34), (some (31, true))⟩,
    ⟨(.ld 2 true), [.t 34], (some 35), (some (31, true))⟩,
    ⟨(.eqv false [.int .i64, .int .u32]), [.t 33, .t 35], (some 36), (some (31, true))⟩,
    ⟨.pick, [.t 31, .t 36, .c (.pv (.b false))], (some 37), none⟩,
    ⟨.mv, [.t 37], (some 38), none⟩,
    ⟨(.fa 15), [.t 2], (some 39), (some (38, true))⟩,
    ⟨(.ld 1 false), [.t 39], (some 40), (some (38, true))⟩,
    ⟨(.fa 15), [.t 3], (some 41), (some (38, true))⟩,
    ⟨(.ld 1 false), [.t 41], (some 42), (some (38, true))⟩,
    ⟨(.bin .eql), [.t 40, .t 42], (some 43), (some (38, true))⟩,
    ⟨.pick, [.t 38, .t 43, .c (.pv (.b false))], (some 44), none⟩,
    ⟨.mv, [.t 44], (some 45), none⟩,
    ⟨(.fa 16), [.t 2], (some 46), (some (45, true))⟩,
    ⟨(.ld 1 false), [.t 46], (some 47), (some (45, true))⟩,
    ⟨(.fa 16), [.t 3], (some 48), (some (45, true))⟩,
    ⟨(.ld 1 false), [.t 48], (some 49), (some (45, true))⟩,
    ⟨(.call 102), [.t 47, .t 49], (some 50), (some (45, true))⟩,
    ⟨.pick, [.t 45, .t 50, .c (.pv (.b false))], (some 51), none⟩,
    ⟨.mv, [.t 51], (some 52), none⟩,
    ⟨(.fa 17), [.t 2], (some 53), (some (52, true))⟩,
    ⟨(.ld 1 false), [.t 53], (some 54), (some (52, true))⟩,
    ⟨(.fa 17), [.t 3], (some 55), (some (52, true))⟩,
    ⟨(.ld 1 false), [.t 55], (some 56), (some (52, true))⟩,
    ⟨(.call 102), [.t 54, .t 56], (some 57), (some (52, true))⟩,
    ⟨.pick, [.t 52, .t 57, .c (.pv (.b false))], (some 58), none⟩,
    ⟨.mv, [.t 58], (some 59), none⟩,
    ⟨(.fa 18), [.t 2], (some 60), (some (59, true))⟩,
    ⟨(.ld 1 false), [.t 60], (some 61), (some (59, true))⟩,
    ⟨(.fa 18), [.t 3], (some 62), (some (59, true))⟩,
    ⟨(.ld 1 false), [.t 62], (some 63), (some (59, true))⟩,
    ⟨(.bin .eql), [.t 61, .t 63], (some 64), (some (59, true))⟩,
    ⟨.pick, [.t 59, .t 64, .c (.pv (.b false))], (some 65), none⟩,
    ⟨.mv, [.t 65], (some 66), none⟩,
    ⟨(.fa 19), [.t 2], (some 67), (some (66, true))⟩,
    ⟨(.ld 1 false), [.t 67], (some 68), (some (66, true))⟩,
    ⟨(.fa 19), [.t 3], (some 69), (some (66, true))⟩,
    ⟨(.ld 1 false), [.t 69], (some 70), (some (66, true))⟩,
    ⟨(.bin .eql), [.t 68, .t 70], (some 71), (some (66, true))⟩,
    ⟨.pick, [.t 66, .t 71, .c (.pv (.b false))], (some 72), none⟩,
    ⟨.mv, [.t 72], (some 73), none⟩,
    ⟨(.fa 20), [.t 2], (some 74), (some (73, true))⟩,
    ⟨(.ld 1 false), [.t 74], (some 75), (some (73, true))⟩,
    ⟨(.fa 20), [.t 3], (some 76), (some (73, true))⟩,
    ⟨(.ld 1 false), [.t 76], (some 77), (some (73, true))⟩,
    ⟨(.bin .eql), [.t 75, .t 77], (some 78), (some (73, true))⟩,
    ⟨.pick, [.t 73, .t 78, .c (.pv (.b false))], (some 79), none⟩,
    ⟨.mv, [.t 79], (some 4), none⟩])
  .ret))
theorem fn47 : fnOf Try.prog 47 = some (80, [.t 4], ir47) := by kernel_rfl
def ir48 : C :=
  (.seq (.ops [⟨.box, [.t 0], (some 2), none⟩,
    ⟨.box, [.t 1], (some 3), none⟩,
    ⟨.mv, [.c (.pv (.b false))], (some 4), none⟩])
  (.seq (.ops [⟨(.fa 0), [.t 2], (some 5), none⟩,
    ⟨(.ld 2 true), [.t 5], (some 6), none⟩,
    ⟨(.fa 0), [.t 3], (some 7), none⟩,
    ⟨(.ld 2 true), [.t 7], (some 8), none⟩,
    ⟨(.eqv false [.int .i64, .int .u32]), [.t 6, .t 8], (some 9), none⟩,
    ⟨.mv, [.t 9], (some 10), none⟩,
    ⟨(.fa 2), [.t 2], (some 11), (some (10, true))⟩,
    ⟨(.ld 8 true), [.t 11], (some 12), (some (10, true))⟩,
    ⟨(.fa 2), [.t 3], (some 13), (some (10, true))⟩,
    ⟨(.ld 8 true), [.t 13], (some 14), (some (10, true))⟩,
    ⟨(.eqv false [.int .u32, .int .u32, .int .u32, .int .u32, .int .u32, .int .u32, .int .u32, .int .u32]), [.t 12, .t 14], (some 15), (some (10, true))⟩,
    ⟨.pick, [.t 10, .t 15, .c (.pv (.b false))], (some 16), none⟩,
    ⟨.mv, [.t 16], (some 17), none⟩,
    ⟨(.fa 10), [.t 2], (some 18), (some (17, true))⟩,
    ⟨(.ld 1 false), [.t 18], (some 19), (some (17, true))⟩,
    ⟨(.fa 10), [.t 3], (some 20), (some (17, true))⟩,
    ⟨(.ld 1 false), [.t 20], (some 21), (some (17, true))⟩,
    ⟨(.bin .eql), [.t 19, .t 21], (some 22), (some (17, true))⟩,
    ⟨.pick, [.t 17, .t 22, .c (.pv (.b false))], (some 23), none⟩,
    ⟨.mv, [.t 23], (some 24), none⟩,
    ⟨(.fa 11), [.t 2], (some 25), (some (24, true))⟩,
    ⟨(.ld 2 true), [.t 25], (some 26), (some (24, true))⟩,
    ⟨(.fa 11), [.t 3], (some 27), (some (24, true))⟩,
    ⟨(.ld 2 true), [.t 27], (some 28), (some (24, true))⟩,
    ⟨(.eqv false [.int .i64, .int .u32]), [.t 26, .t 28], (some 29), (some (24, true))⟩,
    ⟨.pick, [.t 24, .t 29, .c (.pv (.b false))], (some 30), none⟩,
    ⟨.mv, [.t 30], (some 31), none⟩,
    ⟨(.fa 13), [.t 2], (some 32), (some (31, true))⟩,
    ⟨(.ld 2 true), [.t 32], (some 33), (some (31, true))⟩,
    ⟨(.fa 13), [.t 3], (some 34), (some (31, true))⟩,
    ⟨(.ld 2 true), [.t 34], (some 35), (some (31, true))⟩,
    ⟨(.eqv false [.int .i64, .int .u32]), [.t 33, .t 35], (some 36), (some (31, true))⟩,
    ⟨.pick, [.t 31, .t 36, .c (.pv (.b false))], (some 37), none⟩,
    ⟨.mv, [.t 37], (some 38), none⟩,
    ⟨(.fa 15), [.t 2], (some 39), (some (38, true))⟩,
    ⟨(.ld 1 false), [.t 39], (some 40), (some (38, true))⟩,
    ⟨(.fa 15), [.t 3], (some 41), (some (38, true))⟩,
    ⟨(.ld 1 false), [.t 41], (some 42), (some (38, true))⟩,
    ⟨(.bin .eql), [.t 40, .t 42], (some 43), (some (38, true))⟩,
    ⟨.pick, [.t 38, .t 43, .c (.pv (.b false))], (some 44), none⟩,
    ⟨.mv, [.t 44], (some 45), none⟩,
    ⟨(.fa 16), [.t 2], (some 46), (some (45, true))⟩,
    ⟨(.ld 1 false), [.t 46], (some 47), (some (45, true))⟩,
    ⟨(.fa 16), [.t 3], (some 48), (some (45, true))⟩,
    ⟨(.ld 1 false), [.t 48], (some 49), (some (45, true))⟩,
    ⟨(.call 103), [.t 47, .t 49], (some 50), (some (45, true))⟩,
    ⟨.pick, [.t 45, .t 50, .c (.pv (.b false))], (some 51), none⟩,
    ⟨.mv, [.t 51], (some 52), none⟩,
    ⟨(.fa 17), [.t 2], (some 53), (some (52, true))⟩,
    ⟨(.ld 1 false), [.t 53], (some 54), (some (52, true))⟩,
    ⟨(.fa 17), [.t 3], (some 55), (some (52, true))⟩,
    ⟨(.ld 1 false), [.t 55], (some 56), (some (52, true))⟩,
    ⟨(.call 103), [.t 54, .t 56], (some 57), (some (52, true))⟩,
    ⟨.pick, [.t 52, .t 57, .c (.pv (.b false))], (some 58), none⟩,
    ⟨.mv, [.t 58], (some 59), none⟩,
    ⟨(.fa 18), [.t 2], (some 60), (some (59, true))⟩,
    ⟨(.ld 1 false), [.t 60], (some 61), (some (59, true))⟩,
    ⟨(.fa 18), [.t 3], (some 62), (some (59, true))⟩,
    ⟨(.ld 1 false), [.t 62], (some 63), (some (59, true))⟩,
    ⟨(.bin .eql), [.t 61, .t 63], (some 64), (some (59, true))⟩,
    ⟨.pick, [.t 59, .t 64, .c (.pv (.b false))], (some 65), none⟩,
    ⟨.mv, [.t 65], (some 66), none⟩,
    ⟨(.fa 19), [.t 2], (some 67), (some (66, true))⟩,
    ⟨(.ld 1 false), [.t 67], (some 68), (some (66, true))⟩,
    ⟨(.fa 19), [.t 3], (some 69), (some (66, true))⟩,
    ⟨(.ld 1 false), [.t 69], (some 70), (some (66, true))⟩,
    ⟨(.bin .eql), [.t 68, .t 70], (some 71), (some (66, true))⟩,
    ⟨.pick, [.t 66, .t 71, .c (.pv (.b false))], (some 72), none⟩,
    ⟨.mv, [.t 72], (some 73), none⟩,
    ⟨(.fa 20), [.t 2], (some 74), (some (73, true))⟩,
    ⟨(.ld 1 false), [.t 74], (some 75), (some (73, true))⟩,
    ⟨(.fa 20), [.t 3], (some 76), (some (73, true))⟩,
    ⟨(.ld 1 false), [.t 76], (some 77), (some (73, true))⟩,
    ⟨(.bin .eql), [.t 75, .t 77], (some 78), (some (73, true))⟩,
    ⟨.pick, [.t 73, .t 78, .c (.pv (.b false))], (some 79), none⟩,
    ⟨.mv, [.t 79], (some 4), none⟩])
  .ret))
theorem fn48 : fnOf Try.prog 48 = some (80, [.t 4], ir48) := by kernel_rfl
def ir57 : C :=
  (.seq (.ops [⟨.box, [.t 1], (some 3), none⟩,
    ⟨(.new (.vec 8 (List.replicate 8 (.i .u32 0)))), [], (some 4), none⟩,
    ⟨.mv, [.c (.pv (.i .i64 0))], (some 5), none⟩])
  (.seq (.ops [⟨.mv, [.t 0], (some 13), none⟩,
    ⟨(.call 58), [.t 13], (some 14), none⟩,
    ⟨.mv, [.t 14], (some 12), none⟩,
    ⟨(.ext 0), [.t 12], (some 15), none⟩,
    ⟨(.ext 1), [.t 12], (some 16), none⟩,
    ⟨(.new (.vec 8 (List.replicate 8 (.i .i64 0)))), [], (some 6), none⟩,
    ⟨(.sto 8), [.t 6, .t 15], none, none⟩,
    ⟨.mv, [.t 16], (some 7), none⟩])
  (.seq (.seq (.ops [⟨.mv, [.t 7], (some 17), none⟩,
    ⟨(.bin .neq), [.t 17, .c (.pv (.i .i64 0))], (some 18), none⟩])
  (.ite (.t 18) (.seq (.ops [⟨(.bldV 8 1), [.c (.pv (.i .u32 0)), .c (.pv (.i .u32 0)), .c (.pv (.i .u32 0)), .c (.pv (.i .u32 0)), .c (.pv (.i .u32 0)), .c (.pv (.i .u32 0)), .c (.pv (.i .u32 0)), .c (.pv (.i .u32 0))], (some 19), none⟩,
      ⟨.mv, [.t 7], (some 20), none⟩,
      ⟨(.sto 8), [.t 4, .t 19], none, none⟩,
      ⟨.mv, [.t 20], (some 5), none⟩])
    .ret)
    .skip))
  (.seq (.ops [⟨(.new (.vec 8 (List.replicate 8 (.i .u32 0)))), [], (some 8), none⟩])
  (.seq (.seq (.ops [⟨(.ld 8 true), [.t 6], (some 21), none⟩,
    ⟨.mv, [.c (.pv (.i .i64 0))], (some 22), none⟩])
  (.block 0 (.loop (.seq (.ops [⟨(.bin .lss), [.t 22, .c (.pv (.i .i64 8))], (some 23), none⟩])
      (.seq (.ite (.t 23) .skip
        (.exit 0))
      (.seq (.block 1 (.seq (.ops [⟨.mv, [.t 22], (some 24), none⟩,
          ⟨(.ixA 8 1 false), [.t 21, .t 22], (some 25), none⟩,
          ⟨.mv, [.t 24], (some 9), none⟩,
          ⟨.mv, [.t 25], (some 10), none⟩])
        (.seq (.ops [⟨.mv, [.t 9], (some 26), none⟩,
          ⟨(.iaA 8 1), [.t 3, .t 26], (some 27), none⟩,
          ⟨(.ld 1 false), [.t 27], (some 28), none⟩,
          ⟨(.cvI .i64), [.t 28], (some 29), none⟩,
          ⟨.mv, [.t 10], (some 30), none⟩,
          ⟨(.bin .add), [.t 29, .t 30], (some 31), none⟩,
          ⟨.mv, [.t 31], (some 11), none⟩])
        (.seq (.seq (.ops [⟨.mv, [.t 11], (some 32), none⟩,
          ⟨(.bin .lss), [.t 32, .c (.pv (.i .i64 0))], (some 33), none⟩,
          ⟨.mv, [.t 33], (some 34), none⟩,
          ⟨.mv, [.t 11], (some 35), (some (34, false))⟩,
          ⟨(.bin .gtr), [.t 35, .c (.pv (.i .i64 4294967295))], (some 36), (some (34, false))⟩,
          ⟨.pick, [.t 34, .c (.pv (.b true)), .t 36], (some 37), none⟩])
        (.ite (.t 37) (.seq (.ops [⟨(.bldV 8 1), [.c (.pv (.i .u32 0)), .c (.pv (.i .u32 0)), .c (.pv (.i .u32 0)), .c (.pv (.i .u32 0)), .c (.pv (.i .u32 0)), .c (.pv (.i .u32 0)), .c (.pv (.i .u32 0)), .c (.pv (.i .u32 0))], (some 38), none⟩,
            ⟨(.sto 8), [.t 4, .t 38], none, none⟩,
            ⟨.mv, [.c (.pv (.i .i64 7))], (some 5), none⟩])
          .ret)
          .skip))
        (.ops [⟨.mv, [.t 9], (some 39), none⟩,
          ⟨.mv, [.t 11], (some 40), none⟩,
          ⟨(.cvI .u32), [.t 40], (some 41), none⟩,
          ⟨(.iaA 8 1), [.t 8, .t 39], (some 42), none⟩,
          ⟨(.sto 1), [.t 42, .t 41], none, none⟩])))))
      (.ops [⟨(.bin .add), [.t 22, .c (.pv (.i .i64 1))], (some 43), none⟩,
        ⟨.mv, [.t 43], (some 22), none⟩])))))))
  (.seq (.ops [⟨(.ld 8 true), [.t 8], (some 44), none⟩,
    ⟨(.sto 8), [.t 4, .t 44], none, none⟩,
    ⟨.mv, [.c (.pv (.i .i64 0))], (some 5), none⟩])
  .ret))))))
theorem fn57 : fnOf Try.prog 57 = some (45, [.c 4 8 true, .t 5], ir57) := by kernel_rfl
def ir58 : C :=
  (.seq (.ops [⟨(.new (.vec 8 (List.replicate 8 (.i .i64 0)))), [], (some 2), none⟩,
    ⟨.mv, [.c (.pv (.i .i64 0))], (some 3), none⟩])
  (.seq (.ops [⟨(.new (.vec 8 (List.replicate 8 (.i .i64 0)))), [], (some 4), none⟩])
  (.seq (.seq (.ops [⟨.mv, [.t 0], (some 12), none⟩,
    ⟨.len, [.t 12], (some 13), none⟩,
    ⟨(.bin .lss), [.t 13, .c (.pv (.i .i64 2))], (some 14), none⟩])
  (.ite (.t 14) (.seq (.ops [⟨(.bldV 8 1), [.c (.pv (.i .i64 0)), .c (.pv (.i .i64 0)), .c (.pv (.i .i64 0)), .c (.pv (.i .i64 0)), .c (.pv (.i .i64 0)), .c (.pv (.i .i64 0)), .c (.pv (.i .i64 0)), .c (.pv (.i .i64 0))], (some 15), none⟩,
      ⟨(.sto 8), [.t 2, .t 15], none, none⟩,
      ⟨.mv, [.c (.pv (.i .i64 8))], (some 3), none⟩])
    .ret)
    .skip))
  (.seq (.anyF [] [(⟨.mv, [.t 0], (some 16), none⟩, 0, []),
    (⟨(.iaS 1), [.t 16, .c (.pv (.i .i64 0))], (some 17), none⟩, 1, []),
    (⟨(.ld 1 false), [.t 17], (some 18), none⟩, 1, []),
    (⟨.mv, [.t 0], (some 19), none⟩, 0, []),
    (⟨(.iaS 1), [.t 19, .c (.pv (.i .i64 1))], (some 20), none⟩, 1, []),
    (⟨(.ld 1 false), [.t 20], (some 21), none⟩, 1, []),
    (⟨.mv, [.t 0], (some 22), none⟩, 0, []),
    (⟨(.slc 1 true false false), [.t 22, .c (.pv (.i .i64 2))], (some 23), none⟩, 1, []),
    (⟨.mv, [.t 18], (some 5), none⟩, 0, []),
    (⟨.mv, [.t 21], (some 6), none⟩, 0, []),
    (⟨.mv, [.t 23], (some 7), none⟩, 0, [])])
  (.seq (.seq (.ops [⟨.mv, [.t 5], (some 24), none⟩,
    ⟨.mv, [.t 6], (some 25), none⟩,
    ⟨(.bin .and), [.t 24, .t 25], (some 26), none⟩,
    ⟨(.bin .neq), [.t 26, .c (.pv (.i .u8 0))], (some 27), none⟩])
  (.ite (.t 27) (.seq (.ops [⟨(.bldV 8 1), [.c (.pv (.i .i64 0)), .c (.pv (.i .i64 0)), .c (.pv (.i .i64 0)), .c (.pv (.i .i64 0)), .c (.pv (.i .i64 0)), .c (.pv (.i .i64 0)), .c (.pv (.i .i64 0)), .c (.pv (.i .i64 0))], (some 28), none⟩,
      ⟨(.sto 8), [.t 2, .t 28], none, none⟩,
      ⟨.mv, [.c (.pv (.i .i64 7))], (some 3), none⟩])
    .ret)
    .skip))
  (.seq .skip
  (.seq (.seq (.ops [⟨.mv, [.c (.pv (.i .i64 0))], (some 29), none⟩])
  (.block 0 (.loop (.seq (.ops [⟨(.bin .lss), [.t 29, .c (.pv (.i .i64 8))], (some 30), none⟩])
      (.seq (.ite (.t 30) .skip
        (.exit 0))
      (.seq (.block 1 (.seq (.ops [⟨.mv, [.t 29], (some 31), none⟩,
          ⟨.mv, [.t 31], (some 8), none⟩])
        (.seq (.ops [⟨.mv, [.c (.pv (.i .i64 1))], (some 9), none⟩])
        (.seq (.block 2 (.seq (.ops [⟨.mv, [.t 6], (some 33), none⟩,
            ⟨.mv, [.t 8], (some 34), none⟩,
            ⟨(.bin .shr), [.t 33, .t 34], (some 35), none⟩,
            ⟨(.bin .and), [.t 35, .c (.pv (.i .u8 1))], (some 36), none⟩,
            ⟨(.bin .eql), [.t 36, .c (.pv (.i .u8 1))], (some 37), none⟩,
            ⟨.mv, [.t 37], (some 32), none⟩])
          (.ite (.t 32) (.ops [⟨.mv, [.c (.pv (.i .i64 (-1)))], (some 9), none⟩])
            (.seq (.ops [⟨.mv, [.t 5], (some 39), none⟩,
              ⟨.mv, [.t 8], (some 40), none⟩,
              ⟨(.bin .shr), [.t 39, .t 40], (some 41), none⟩,
              ⟨(.bin .and), [.t 41, .c (.pv (.i .u8 1))], (some 42), none⟩,
              ⟨(.bin .eql), [.t 42, .c (.pv (.i .u8 0))], (some 43), none⟩,
              ⟨.mv, [.t 43], (some 38), none⟩])
            (.ite (.t 38) (.exit 1)
              .skip)))))
        (.seq (.seq (.ops [⟨.mv, [.t 7], (some 44), none⟩,
          ⟨.len, [.t 44], (some 45), none⟩,
          ⟨(.bin .eql), [.t 45, .c (.pv (.i .i64 0))], (some 46), none⟩,
          ⟨.mv, [.t 46], (some 47), none⟩,
          ⟨.mv, [.t 7], (some 48), (some (47, false))⟩,
          ⟨(.iaS 1), [.t 48, .c (.pv (.i .i64 0))], (some 49), (some (47, false))⟩,
          ⟨(.ld 1 false), [.t 49], (some 50), (some (47, false))⟩,
          ⟨(.cvI .i64), [.t 50], (some 51), (some (47, false))⟩,
          ⟨.mv, [.t 7], (some 52), (some (47, false))⟩,
          ⟨.len, [.t 52], (some 53), (some (47, false))⟩,
          ⟨(.bin .sub), [.t 53, .c (.pv (.i .i64 1))], (some 54), (some (47, false))⟩,
          ⟨(.bin .gtr), [.t 51, .t 54], (some 55), (some (47, false))⟩,
          ⟨.pick, [.t 47, .c (.pv (.b true)), .t 55], (some 56), none⟩])
        (.ite (.t 56) (.seq (.ops [⟨(.bldV 8 1), [.c (.pv (.i .i64 0)), .c (.pv (.i .i64 0)), .c (.pv (.i .i64 0)), .c (.pv (.i .i64 0)), .c (.pv (.i .i64 0)), .c (.pv (.i .i64 0)), .c (.pv (.i .i64 0)), .c (.pv (.i .i64 0))], (some 57), none⟩,
            ⟨(.sto 8), [.t 2, .t 57], none, none⟩,
            ⟨.mv, [.c (.pv (.i .i64 8))], (some 3), none⟩])
          .ret)
          .skip))
        (.seq (.ops [⟨.mv, [.t 7], (some 59), none⟩,
          ⟨.mv, [.t 7], (some 60), none⟩,
          ⟨(.iaS 1), [.t 60, .c (.pv (.i .i64 0))], (some 61), none⟩,
          ⟨(.ld 1 false), [.t 61], (some 62), none⟩,
          ⟨(.cvI .i64), [.t 62], (some 63), none⟩,
          ⟨(.bin .add), [.c (.pv (.i .i64 1)), .t 63], (some 64), none⟩,
          ⟨(.slc 1 true true false), [.t 59, .c (.pv (.i .i64 1)), .t 64], (some 65), none⟩,
          ⟨(.call 112), [.t 65], (some 66), none⟩,
          ⟨.mv, [.t 66], (some 58), none⟩,
          ⟨(.ext 0), [.t 58], (some 67), none⟩,
          ⟨(.ext 1), [.t 58], (some 68), none⟩,
          ⟨.mv, [.t 67], (some 10), none⟩,
          ⟨.mv, [.t 68], (some 11), none⟩])
        (.seq (.seq (.ops [⟨.mv, [.t 11], (some 69), none⟩,
          ⟨(.bin .neq), [.t 69, .c (.pv (.i .i64 0))], (some 70), none⟩,
          ⟨.mv, [.t 70], (some 71), none⟩,
          ⟨.mv, [.t 10], (some 72), (some (71, false))⟩,
          ⟨(.bin .eql), [.t 72, .c (.pv (.i .u64 0))], (some 73), (some (71, false))⟩,
          ⟨.pick, [.t 71, .c (.pv (.b true)), .t 73], (some 74), none⟩,
          ⟨.mv, [.t 74], (some 75), none⟩,
          ⟨.mv, [.t 10], (some 76), (some (75, false))⟩,
          ⟨(.bin .gtr), [.t 76, .c (.pv (.i .u64 4294967295))], (some 77), (some (75, false))⟩,
          ⟨.pick, [.t 75, .c (.pv (.b true)), .t 77], (some 78), none⟩])
        (.ite (.t 78) (.seq (.ops [⟨(.bldV 8 1), [.c (.pv (.i .i64 0)), .c (.pv (.i .i64 0)), .c (.pv (.i .i64 0)), .c (.pv (.i .i64 0)), .c (.pv (.i .i64 0)), .c (.pv (.i .i64 0)), .c (.pv (.i .i64 0)), .c (.pv (.i .i64 0))], (some 79), none⟩,
            ⟨(.sto 8), [.t 2, .t 79], none, none⟩,
            ⟨.mv, [.c (.pv (.i .i64 7))], (some 3), none⟩])
          .ret)
          .skip))
        (.seq (.ops [⟨.mv, [.t 8], (some 80), none⟩,
          ⟨.mv, [.t 9], (some 81), none⟩,
          ⟨.mv, [.t 10], (some 82), none⟩,
          ⟨(.cvI .i64), [.t 82], (some 83), none⟩,
          ⟨(.bin .mul), [.t 81, .t 83], (some 84), none⟩,
          ⟨(.iaA 8 1), [.t 4, .t 80], (some 85), none⟩,
          ⟨(.sto 1), [.t 85, .t 84], none, none⟩])
        (.ops [⟨.mv, [.t 7], (some 86), none⟩,
          ⟨.mv, [.t 7], (some 87), none⟩,
          ⟨(.iaS 1), [.t 87, .c (.pv (.i .i64 0))], (some 88), none⟩,
          ⟨(.ld 1 false), [.t 88], (some 89), none⟩,
          ⟨(.cvI .i64), [.t 89], (some 90), none⟩,
          ⟨(.bin .add), [.c (.pv (.i .i64 1)), .t 90], (some 91), none⟩,
          ⟨(.slc 1 true false false), [.t 86, .t 91], (some 92), none⟩,
          ⟨.mv, [.t 92], (some 7), none⟩])))))))))
      (.ops [⟨(.bin .add), [.t 29, .c (.pv (.i .i64 1))], (some 93), none⟩,
        ⟨.mv, [.t 93], (some 29), none⟩])))))))
  (.seq (.seq (.ops [⟨.mv, [.t 7], (some 94), none⟩,
    ⟨.len, [.t 94], (some 95), none⟩,
    ⟨(.bin .gtr), [.t 95, .c (.pv (.i .i64 0))], (some 96), none⟩])
  (.ite (.t 96) (.seq (.ops [⟨(.bldV 8 1), [.c (.pv (.i .i64 0)), .c (.pv (.i .i64 0)), .c (.pv (.i .i64 0)), .c (.pv (.i .i64 0)), .c (.pv (.i .i64 0)), .c (.pv (.i .i64 0)), .c (.pv (.i .i64 0)), .c (.pv (.i .i64 0))], (some 97), none⟩,
      ⟨(.sto 8), [.t 2, .t 97], none, none⟩,
      ⟨.mv, [.c (.pv (.i .i64 4))], (some 3), none⟩])
    .ret)
    .skip))
  (.seq (.ops [⟨(.ld 8 true), [.t 4], (some 98), none⟩,
    ⟨(.sto 8), [.t 2, .t 98], none, none⟩,
    ⟨.mv, [.c (.pv (.i .i64 0))], (some 3), none⟩])
  .ret)))))))))
theorem fn58 : fnOf Try.prog 58 = some (99, [.c 2 8 true, .t 3], ir58) := by kernel_rfl
def ir59 : C :=
  (.seq (.ops [⟨.mv, [.c (.pv (.sl true 0 []))], (some 2), none⟩])
  (.seq (.ops [⟨.mv, [.t 0], (some 4), none⟩,
    ⟨(.cvI .u64), [.t 4], (some 5), none⟩,
    ⟨(.call 89), [.t 5], (some 6), none⟩,
    ⟨.mv, [.t 6], (some 3), none⟩])
  (.seq (.ops [⟨.mv, [.t 3], (some 7), none⟩,
    ⟨.len, [.t 7], (some 8), none⟩,
    ⟨(.cvI .u8), [.t 8], (some 9), none⟩,
    ⟨(.bsl 1), [.t 9], (some 10), none⟩,
    ⟨.mv, [.t 3], (some 11), none⟩,
    ⟨(.app 1 1), [.t 10, .t 11], (some 12), none⟩,
    ⟨.mv, [.t 12], (some 2), none⟩])
  .ret)))
theorem fn59 : fnOf Try.prog 59 = some (13, [.t 2], ir59) := by kernel_rfl
def ir67 : C :=
  (.seq (.ops [⟨.box, [.t 0], (some 2), none⟩,
    ⟨.box, [.t 1], (some 3), none⟩,
    ⟨.mv, [.c (.pv (.b false))], (some 4), none⟩])
  (.seq (.ops [⟨(.fa 1), [.t 2], (some 5), none⟩,
    ⟨(.ld 1 false), [.t 5], (some 6), none⟩,
    ⟨(.fa 1), [.t 3], (some 7), none⟩,
    ⟨(.ld 1 false), [.t 7], (some 8), none⟩,
    ⟨(.bin .lss), [.t 6, .t 8], (some 9), none⟩,
    ⟨.mv, [.t 9], (some 10), none⟩,
    ⟨(.fa 1), [.t 2], (some 11), (some (10, false))⟩,
    ⟨(.ld 1 false), [.t 11], (some 12), (some (10, false))⟩,
    ⟨(.fa 1), [.t 3], (some 13), (some (10, false))⟩,
    ⟨(.ld 1 false), [.t 13], (some 14), (some (10, false))⟩,
    ⟨(.bin .eql), [.t 12, .t 14], (some 15), (some (10, false))⟩,
    ⟨.mv, [.t 15], (some 16), (some (10, false))⟩,
    ⟨(.fa 0), [.t 2], (some 17), (some (16, true))⟩,
    ⟨(.ld 1 false), [.t 17], (some 18), (some (16, true))⟩,
    ⟨(.fa 0), [.t 3], (some 19), (some (16, true))⟩,
    ⟨(.ld 1 false), [.t 19], (some 20), (some (16, true))⟩,
    ⟨(.bin .lss), [.t 18, .t 20], (some 21), (some (16, true))⟩,
    ⟨.pick, [.t 16, .t 21, .c (.pv (.b false))], (some 22), (some (10, false))⟩,
    ⟨.pick, [.t 10, .c (.pv (.b true)), .t 22], (some 23), none⟩,
    ⟨.mv, [.t 23], (some 4), none⟩])
  .ret))
theorem fn67 : fnOf Try.prog 67 = some (24, [.t 4], ir67) := by kernel_rfl
def ir76 : C :=
  (.seq (.ops [⟨.box, [.t 0], (some 2), none⟩,
    ⟨.box, [.t 1], (some 3), none⟩,
    ⟨.mv, [.c (.pv (.b false))], (some 4), none⟩])
  (.seq (.any [14] [(⟨(.fa 1), [.t 3], (some 5), none⟩, 0, [14]),
    (⟨(.ld 1 false), [.t 5], (some 6), none⟩, 1, [14]),
    (⟨(.bin .geq), [.t 6, .c (.pv (.i .u32 1))], (some 7), none⟩, 0, [14]),
    (⟨.mv, [.t 7], (some 8), none⟩, 0, [14]),
    (⟨(.fa 1), [.t 3], (some 9), (some (8, true))⟩, 0, [14]),
    (⟨(.ld 1 false), [.t 9], (some 10), (some (8, true))⟩, 1, [14]),
    (⟨(.ld 8 true), [.t 2], (some 11), (some (8, true))⟩, 1, [14]),
    (⟨(.fa 0), [.t 3], (some 12), (some (8, true))⟩, 0, [14]),
    (⟨(.ld 1 false), [.t 12], (some 13), (some (8, true))⟩, 1, [14]),
    (⟨(.call 119), [.t 11, .t 13], (some 14), (some (8, true))⟩, 1, [14]),
    (⟨(.bin .leq), [.t 10, .t 14], (some 15), (some (8, true))⟩, 0, []),
    (⟨.pick, [.t 8, .t 15, .c (.pv (.b false))], (some 16), none⟩, 0, [14]),
    (⟨.mv, [.t 16], (some 4), none⟩, 0, [])])
  .ret))
theorem fn76 : fnOf Try.prog 76 = some (17, [.t 4], ir76) := by kernel_rfl
def ir77 : C :=
  (.seq (.ops [⟨.box, [.t 0], (some 2), none⟩,
    ⟨.box, [.t 1], (some 3), none⟩,
    ⟨.mv, [.c (.pv (.b false))], (some 4), none⟩])
  (.seq (.any [12] [(⟨(.fa 1), [.t 3], (some 5), none⟩, 0, [12]),
    (⟨(.ld 1 false), [.t 5], (some 6), none⟩, 1, [12]),
    (⟨(.bin .gtr), [.t 6, .c (.pv (.i .u32 0))], (some 7), none⟩, 0, [12]),
    (⟨.mv, [.t 7], (some 8), none⟩, 0, [12]),
    (⟨(.ld 8 true), [.t 2], (some 9), (some (8, true))⟩, 1, [12]),
    (⟨(.fa 0), [.t 3], (some 10), (some (8, true))⟩, 0, [12]),
    (⟨(.ld 1 false), [.t 10], (some 11), (some (8, true))⟩, 1, [12]),
    (⟨(.call 82), [.t 9, .t 11], (some 12), (some (8, true))⟩, 1, [12]),
    (⟨(.fa 1), [.t 3], (some 13), (some (8, true))⟩, 0, [12]),
    (⟨(.ld 1 false), [.t 13], (some 14), (some (8, true))⟩, 1, [12]),
    (⟨(.bin .geq), [.t 12, .t 14], (some 15), (some (8, true))⟩, 0, []),
    (⟨.pick, [.t 8, .t 15, .c (.pv (.b false))], (some 16), none⟩, 0, [12]),
    (⟨.mv, [.t 16], (some 4), none⟩, 0, [])])
  .ret))
theorem fn77 : fnOf Try.prog 77 = some (17, [.t 4], ir77) := by kernel_rfl
def ir78 : C :=
  (.seq (.ops [⟨.box, [.t 0], (some 1), none⟩,
    ⟨(.new (.agg [.pv (.i .i64 0), .pv (.i .u32 0), .vec 8 (List.replicate 8 (.i .u32 0)), .pv (.i .i64 0), .pv (.i .i64 0), .pv (.i .u32 0), .pv (.i .i64 0), .pv (.i .u32 0), .pv (.s []), .pv (.sl true 0 []), .pv (.sl true 0 []), .pv (.i .i64 0), .pv (.s []), .pv (.i .i64 0)])), [], (some 2), none⟩])
  (.seq (.seq (.ops [⟨(.fa 10), [.t 1], (some 3), none⟩,
    ⟨(.ld 1 false), [.t 3], (some 4), none⟩])
  (.block 0 (.seq (.seq (.ops [⟨(.bin .eql), [.t 4, .c (.pv (.i .i64 1))], (some 6), none⟩,
      ⟨.mv, [.t 6], (some 5), none⟩])
    (.ite (.t 5) .skip
      (.ops [⟨(.bin .eql), [.t 4, .c (.pv (.i .i64 2))], (some 7), none⟩,
        ⟨.mv, [.t 7], (some 5), none⟩])))
    (.ite (.t 5) (.ops [⟨(.bld [1, 1]), [.c (.pv (.i .i64 0)), .c (.pv (.i .u32 0))], (some 8), none⟩,
        ⟨(.fa 13), [.t 1], (some 9), none⟩,
        ⟨(.sto 2), [.t 9, .t 8], none, none⟩,
        ⟨(.fa 15), [.t 1], (some 10), none⟩,
        ⟨(.sto 1), [.t 10, .c (.pv (.s []))], none, none⟩])
      (.seq (.ops [⟨(.bin .eql), [.t 4, .c (.pv (.i .i64 3))], (some 12), none⟩,
        ⟨.mv, [.t 12], (some 11), none⟩])
      (.ite (.t 11) (.ops [⟨(.bld [1, 1]), [.c (.pv (.i .i64 0)), .c (.pv (.i .u32 0))], (some 13), none⟩,
          ⟨(.fa 11), [.t 1], (some 14), none⟩,
          ⟨(.sto 2), [.t 14, .t 13], none, none⟩,
          ⟨(.fa 17), [.t 1], (some 15), none⟩,
          ⟨(.sto 1), [.t 15, .c (.pv (.sl true 0 []))], none, none⟩,
          ⟨(.fa 18), [.t 1], (some 16), none⟩,
          ⟨(.sto 1), [.t 16, .c (.pv (.i .i64 0))], none, none⟩,
          ⟨(.fa 19), [.t 1], (some 17), none⟩,
          ⟨(.sto 1), [.t 17, .c (.pv (.s []))], none, none⟩])
        (.seq (.ops [⟨(.bin .eql), [.t 4, .c (.pv (.i .i64 4))], (some 19), none⟩,
          ⟨.mv, [.t 19], (some 18), none⟩])
        (.ite (.t 18) (.ops [⟨(.bld [1, 1]), [.c (.pv (.i .i64 0)), .c (.pv (.i .u32 0))], (some 20), none⟩,
            ⟨(.fa 11), [.t 1], (some 21), none⟩,
            ⟨(.sto 2), [.t 21, .t 20], none, none⟩,
            ⟨(.fa 17), [.t 1], (some 22), none⟩,
            ⟨(.sto 1), [.t 22, .c (.pv (.sl true 0 []))], none, none⟩,
            ⟨(.fa 18), [.t 1], (some 23), none⟩,
            ⟨(.sto 1), [.t 23, .c (.pv (.i .i64 0))], none, none⟩])
          (.seq (.ops [⟨(.bin .eql), [.t 4, .c (.pv (.i .i64 5))], (some 25), none⟩,
            ⟨.mv, [.t 25], (some 24), none⟩])
          (.ite (.t 24) (.ops [⟨(.bld [1, 1]), [.c (.pv (.i .i64 0)), .c (.pv (.i .u32 0))], (some 26), none⟩,
              ⟨(.fa 11), [.t 1], (some 27), none⟩,
              ⟨(.sto 2), [.t 27, .t 26], none, none⟩,
              ⟨(.fa 17), [.t 1], (some 28), none⟩,
              ⟨(.sto 1), [.t 28, .c (.pv (.sl true 0 []))], none, none⟩,
              ⟨(.fa 19), [.t 1], (some 29), none⟩,
              ⟨(.sto 1), [.t 29, .c (.pv (.s []))], none, none⟩])
            (.seq (.ops [⟨(.bin .eql), [.t 4, .c (.pv (.i .i64 6))], (some 31), none⟩,
              ⟨.mv, [.t 31], (some 30), none⟩])
            (.ite (.t 30) (.ops [⟨(.bld [1, 1]), [.c (.pv (.i .i64 0)), .c (.pv (.i .u32 0))], (some 32), none⟩,
                ⟨(.fa 11), [.t 1], (some 33), none⟩,
                ⟨(.sto 2), [.t 33, .t 32], none, none⟩,
                ⟨(.fa 16), [.t 1], (some 34), none⟩,
                ⟨(.sto 1), [.t 34, .c (.pv (.sl true 0 []))], none, none⟩])
              (.seq (.ops [⟨(.bin .eql), [.t 4, .c (.pv (.i .i64 7))], (some 36), none⟩,
                ⟨.mv, [.t 36], (some 35), none⟩])
              (.ite (.t 35) (.ops [⟨(.bld [1, 1]), [.c (.pv (.i .i64 0)), .c (.pv (.i .u32 0))], (some 37), none⟩,
                  ⟨(.bld [1, 1]), [.c (.pv (.i .i64 0)), .c (.pv (.i .u32 0))], (some 38), none⟩,
                  ⟨(.fa 11), [.t 1], (some 39), none⟩,
                  ⟨(.sto 2), [.t 39, .t 37], none, none⟩,
                  ⟨(.fa 16), [.t 1], (some 40), none⟩,
                  ⟨(.sto 1), [.t 40, .c (.pv (.sl true 0 []))], none, none⟩,
                  ⟨(.fa 13), [.t 1], (some 41), none⟩,
                  ⟨(.sto 2), [.t 41, .t 38], none, none⟩,
                  ⟨(.fa 15), [.t 1], (some 42), none⟩,
                  ⟨(.sto 1), [.t 42, .c (.pv (.s []))], none, none⟩])
                (.seq (.ops [⟨(.bin .eql), [.t 4, .c (.pv (.i .i64 8))], (some 44), none⟩,
                  ⟨.mv, [.t 44], (some 43), none⟩])
                (.ite (.t 43) (.ops [⟨(.fa 20), [.t 1], (some 45), none⟩,
                    ⟨(.sto 1), [.t 45, .c (.pv (.i .i64 0))], none, none⟩])
                  .skip))))))))))))))))
  (.seq (.ops [⟨(.ld 21 true), [.t 1], (some 46), none⟩,
    ⟨(.sto 21), [.t 2, .t 46], none, none⟩])
  .ret)))
theorem fn78 : fnOf Try.prog 78 = some (47, [.c 2 21 true], ir78) := by kernel_rfl
def ir79 : C :=
  (.seq (.ops [⟨.mv, [.c (.pv (.b false))], (some 2), none⟩])
  (.seq (.ops [⟨.mv, [.t 0], (some 3), none⟩,
    ⟨(.bin .geq), [.t 3, .c (.pv (.i .i64 0))], (some 4), none⟩,
    ⟨.mv, [.t 4], (some 5), none⟩,
    ⟨.mv, [.t 0], (some 6), (some (5, true))⟩,
    ⟨(.bin .leq), [.t 6, .c (.pv (.i .i64 200))], (some 7), (some (5, true))⟩,
    ⟨.pick, [.t 5, .t 7, .c (.pv (.b false))], (some 8), none⟩,
    ⟨.mv, [.t 8], (some 2), none⟩])
  .ret))
theorem fn79 : fnOf Try.prog 79 = some (9, [.t 2], ir79) := by kernel_rfl
def ir80 : C :=
  (.seq (.ops [⟨.box, [.t 0], (some 1), none⟩,
    ⟨.mv, [.c (.pv (.b false))], (some 2), none⟩])
  (.seq (.ops [⟨(.fa 13), [.t 1], (some 3), none⟩,
    ⟨(.ld 2 true), [.t 3], (some 4), none⟩,
    ⟨(.bld [1, 1]), [.c (.pv (.i .i64 0)), .c (.pv (.i .u32 0))], (some 5), none⟩,
    ⟨(.eqv false [.int .i64, .int .u32]), [.t 4, .t 5], (some 6), none⟩,
    ⟨.mv, [.t 6], (some 7), none⟩,
    ⟨(.fa 2), [.t 1], (some 8), (some (7, false))⟩,
    ⟨(.ld 8 true), [.t 8], (some 9), (some (7, false))⟩,
    ⟨(.fa 13), [.t 1], (some 10), (some (7, false))⟩,
    ⟨(.ld 2 true), [.t 10], (some 11), (some (7, false))⟩,
    ⟨(.call 76), [.t 9, .t 11], (some 12), (some (7, false))⟩,
    ⟨.pick, [.t 7, .c (.pv (.b true)), .t 12], (some 13), none⟩,
    ⟨.mv, [.t 13], (some 2), none⟩])
  .ret))
theorem fn80 : fnOf Try.prog 80 = some (14, [.t 2], ir80) := by kernel_rfl
def ir81 : C :=
  (.seq (.ops [⟨.box, [.t 2], (some 5), none⟩,
    ⟨.mv, [.c (.pv (.b false))], (some 6), none⟩])
  (.seq (.seq (.ops [⟨.mv, [.t 0], (some 9), none⟩,
    ⟨.len, [.t 9], (some 10), none⟩,
    ⟨.mv, [.t 1], (some 11), none⟩,
    ⟨(.bin .gtr), [.t 10, .t 11], (some 12), none⟩])
  (.ite (.t 12) (.seq (.ops [⟨.mv, [.c (.pv (.b false))], (some 6), none⟩])
    .ret)
    .skip))
  (.seq (.seq (.ops [⟨.mv, [.t 0], (some 13), none⟩,
    ⟨.len, [.t 13], (some 14), none⟩,
    ⟨.mv, [.c (.pv (.i .i64 0))], (some 15), none⟩])
  (.block 0 (.loop (.seq (.ops [⟨(.bin .lss), [.t 15, .t 14], (some 16), none⟩])
      (.seq (.ite (.t 16) .skip
        (.exit 0))
      (.seq (.block 1 (.seq (.ops [⟨.mv, [.t 15], (some 17), none⟩,
          ⟨(.iaS 2), [.t 13, .t 15], (some 18), none⟩,
          ⟨(.ld 2 true), [.t 18], (some 19), none⟩,
          ⟨(.new (.agg [.pv (.i .i64 0), .pv (.i .u32 0)])), [], (some 8), none⟩,
          ⟨.mv, [.t 17], (some 7), none⟩,
          ⟨(.sto 2), [.t 8, .t 19], none, none⟩])
        (.seq (.any [22, 34] [(⟨(.ld 8 true), [.t 5], (some 20), none⟩, 1, [22, 34]),
          (⟨(.ld 2 true), [.t 8], (some 21), none⟩, 1, [22, 34]),
          (⟨(.call 76), [.t 20, .t 21], (some 22), none⟩, 1, [22, 34]),
          (⟨(.un .not), [.t 22], (some 23), none⟩, 0, [34]),
          (⟨.mv, [.t 23], (some 24), none⟩, 0, [34]),
          (⟨.mv, [.t 7], (some 25), (some (24, false))⟩, 0, [22, 34]),
          (⟨(.bin .gtr), [.t 25, .c (.pv (.i .i64 0))], (some 26), (some (24, false))⟩, 0, [22, 34]),
          (⟨.mv, [.t 26], (some 27), (some (24, false))⟩, 0, [22, 34]),
          (⟨.mv, [.t 0], (some 28), (some (27, true))⟩, 0, [22, 34]),
          (⟨.mv, [.t 7], (some 29), (some (27, true))⟩, 0, [22, 34]),
          (⟨(.bin .sub), [.t 29, .c (.pv (.i .i64 1))], (some 30), (some (27, true))⟩, 0, [22, 34]),
          (⟨(.iaS 2), [.t 28, .t 30], (some 31), (some (27, true))⟩, 1, [22, 34]),
          (⟨(.ld 2 true), [.t 31], (some 32), (some (27, true))⟩, 1, [22, 34]),
          (⟨(.ld 2 true), [.t 8], (some 33), (some (27, true))⟩, 1, [22, 34]),
          (⟨(.call 113), [.t 32, .t 33], (some 34), (some (27, true))⟩, 1, [22, 34]),
          (⟨(.un .not), [.t 34], (some 35), (some (27, true))⟩, 0, [22]),
          (⟨.pick, [.t 27, .t 35, .c (.pv (.b false))], (some 36), (some (24, false))⟩, 0, [22, 34]),
          (⟨.pick, [.t 24, .c (.pv (.b true)), .t 36], (some 37), none⟩, 0, [22, 34])])
        (.ite (.t 37) (.seq (.ops [⟨.mv, [.c (.pv (.b false))], (some 6), none⟩])
          .ret)
          .skip))))
      (.ops [⟨(.bin .add), [.t 15, .c (.pv (.i .i64 1))], (some 38), none⟩,
        ⟨.mv, [.t 38], (some 15), none⟩])))))))
  (.seq (.ops [⟨.mv, [.c (.pv (.b true))], (some 6), none⟩])
  .ret))))
theorem fn81 : fnOf Try.prog 81 = some (39, [.t 6], ir81) := by kernel_rfl
def ir82 : C :=
  (.seq (.ops [⟨.box, [.t 0], (some 2), none⟩,
    ⟨.mv, [.c (.pv (.i .u32 0))], (some 4), none⟩])
  (.seq (.seq (.ops [⟨.mv, [.c (.pv (.i .i64 0))], (some 5), none⟩])
  (.block 0 (.loop (.seq (.seq (.ops [⟨.mv, [.t 5], (some 6), none⟩,
        ⟨(.bin .lss), [.t 6, .c (.pv (.i .i64 8))], (some 7), none⟩])
      (.ite (.t 7) .skip
        (.exit 0)))
      (.seq (.block 1 (.seq (.ops [⟨.mv, [.t 5], (some 10), none⟩,
          ⟨(.bin .add), [.t 10, .c (.pv (.i .i64 1))], (some 11), none⟩,
          ⟨.mv, [.t 1], (some 12), none⟩,
          ⟨(.bin .eql), [.t 11, .t 12], (some 13), none⟩])
        (.ite (.t 13) (.seq (.ops [⟨.mv, [.t 5], (some 14), none⟩,
            ⟨(.iaA 8 1), [.t 2, .t 14], (some 15), none⟩,
            ⟨(.ld 1 false), [.t 15], (some 16), none⟩,
            ⟨.mv, [.t 16], (some 4), none⟩])
          .ret)
          .skip)))
      (.ops [⟨.mv, [.t 5], (some 8), none⟩,
        ⟨(.bin .add), [.t 8, .c (.pv (.i .i64 1))], (some 9), none⟩,
        ⟨.mv, [.t 9], (some 5), none⟩]))))))
  (.seq (.ops [⟨.mv, [.c (.pv (.i .u32 0))], (some 4), none⟩])
  .ret)))
theorem fn82 : fnOf Try.prog 82 = some (17, [.t 4], ir82) := by kernel_rfl
def ir83 : C :=
  (.seq (.ops [⟨.box, [.t 0], (some 1), none⟩,
    ⟨.mv, [.c (.pv (.b false))], (some 2), none⟩])
  (.seq (.ops [⟨(.fa 0), [.t 1], (some 3), none⟩,
    ⟨(.ld 1 false), [.t 3], (some 4), none⟩,
    ⟨(.bin .eql), [.t 4, .c (.pv (.i .i64 0))], (some 5), none⟩,
    ⟨.mv, [.t 5], (some 6), none⟩,
    ⟨(.fa 1), [.t 1], (some 7), (some (6, true))⟩,
    ⟨(.ld 1 false), [.t 7], (some 8), (some (6, true))⟩,
    ⟨(.bin .eql), [.t 8, .c (.pv (.i .u32 0))], (some 9), (some (6, true))⟩,
    ⟨.pick, [.t 6, .t 9, .c (.pv (.b false))], (some 10), none⟩,
    ⟨.mv, [.t 10], (some 2), none⟩])
  .ret))
theorem fn83 : fnOf Try.prog 83 = some (11, [.t 2], ir83) := by kernel_rfl
def ir84 : C :=
  (.seq (.ops [⟨.box, [.t 1], (some 3), none⟩,
    ⟨.mv, [.c (.pv (.b false))], (some 4), none⟩])
  (.seq (.seq (.ops [⟨.mv, [.c (.pv (.i .i64 0))], (some 5), none⟩])
  (.block 0 (.loop (.seq (.seq (.ops [⟨.mv, [.t 5], (some 6), none⟩,
        ⟨.mv, [.t 0], (some 7), none⟩,
        ⟨.len, [.t 7], (some 8), none⟩,
        ⟨(.bin .lss), [.t 6, .t 8], (some 9), none⟩])
      (.ite (.t 9) .skip
        (.exit 0)))
      (.seq (.block 1 (.seq (.any [17, 32] [(⟨(.ld 8 true), [.t 3], (some 12), none⟩, 1, [17, 32]),
          (⟨.mv, [.t 0], (some 13), none⟩, 0, [17, 32]),
          (⟨.mv, [.t 5], (some 14), none⟩, 0, [17, 32]),
          (⟨(.iaS 2), [.t 13, .t 14], (some 15), none⟩, 1, [17, 32]),
          (⟨(.ld 2 true), [.t 15], (some 16), none⟩, 1, [17, 32]),
          (⟨(.call 77), [.t 12, .t 16], (some 17), none⟩, 1, [17, 32]),
          (⟨(.un .not), [.t 17], (some 18), none⟩, 0, [32]),
          (⟨.mv, [.t 18], (some 19), none⟩, 0, [32]),
          (⟨.mv, [.t 5], (some 20), (some (19, false))⟩, 0, [17, 32]),
          (⟨(.bin .gtr), [.t 20, .c (.pv (.i .i64 0))], (some 21), (some (19, false))⟩, 0, [17, 32]),
          (⟨.mv, [.t 21], (some 22), (some (19, false))⟩, 0, [17, 32]),
          (⟨.mv, [.t 0], (some 23), (some (22, true))⟩, 0, [17, 32]),
          (⟨.mv, [.t 5], (some 24), (some (22, true))⟩, 0, [17, 32]),
          (⟨(.bin .sub), [.t 24, .c (.pv (.i .i64 1))], (some 25), (some (22, true))⟩, 0, [17, 32]),
          (⟨(.iaS 2), [.t 23, .t 25], (some 26), (some (22, true))⟩, 1, [17, 32]),
          (⟨(.ld 2 true), [.t 26], (some 27), (some (22, true))⟩, 1, [17, 32]),
          (⟨.mv, [.t 0], (some 28), (some (22, true))⟩, 0, [17, 32]),
          (⟨.mv, [.t 5], (some 29), (some (22, true))⟩, 0, [17, 32]),
          (⟨(.iaS 2), [.t 28, .t 29], (some 30), (some (22, true))⟩, 1, [17, 32]),
          (⟨(.ld 2 true), [.t 30], (some 31), (some (22, true))⟩, 1, [17, 32]),
          (⟨(.call 67), [.t 27, .t 31], (some 32), (some (22, true))⟩, 1, [17, 32]),
          (⟨(.un .not), [.t 32], (some 33), (some (22, true))⟩, 0, [17]),
          (⟨.pick, [.t 22, .t 33, .c (.pv (.b false))], (some 34), (some (19, false))⟩, 0, [17, 32]),
          (⟨.pick, [.t 19, .c (.pv (.b true)), .t 34], (some 35), none⟩, 0, [17, 32])])
        (.ite (.t 35) (.seq (.ops [⟨.mv, [.c (.pv (.b false))], (some 4), none⟩])
          .ret)
          .skip)))
      (.ops [⟨.mv, [.t 5], (some 10), none⟩,
        ⟨(.bin .add), [.t 10, .c (.pv (.i .i64 1))], (some 11), none⟩,
        ⟨.mv, [.t 11], (some 5), none⟩]))))))
  (.seq (.ops [⟨.mv, [.c (.pv (.b true))], (some 4), none⟩])
  .ret)))
theorem fn84 : fnOf Try.prog 84 = some (36, [.t 4], ir84) := by kernel_rfl
def ir85 : C :=
  (.seq (.ops [⟨.box, [.t 0], (some 8), none⟩,
    ⟨.mv, [.c (.pv (.b false))], (some 16), none⟩])
  (.seq (.ops [⟨.mv, [.t 1], (some 17), none⟩,
    ⟨.mv, [.t 17], (some 18), none⟩,
    ⟨(.fa 11), [.t 8], (some 19), (some (18, false))⟩,
    ⟨(.ld 2 true), [.t 19], (some 20), (some (18, false))⟩,
    ⟨(.call 83), [.t 20], (some 21), (some (18, false))⟩,
    ⟨.pick, [.t 18, .c (.pv (.b true)), .t 21], (some 22), none⟩,
    ⟨.mv, [.t 22], (some 23), none⟩,
    ⟨.mv, [.t 2], (some 24), (some (23, true))⟩,
    ⟨.mv, [.t 24], (some 25), (some (23, true))⟩,
    ⟨(.fa 13), [.t 8], (some 26), (some (25, false))⟩,
    ⟨(.ld 2 true), [.t 26], (some 27), (some (25, false))⟩,
    ⟨(.call 83), [.t 27], (some 28), (some (25, false))⟩,
    ⟨.mv, [.t 28], (some 29), (some (25, false))⟩,
    ⟨(.fa 15), [.t 8], (some 30), (some (29, true))⟩,
    ⟨(.ld 1 false), [.t 30], (some 31), (some (29, true))⟩,
    ⟨(.bin .eql), [.t 31, .c (.pv (.s []))], (some 32), (some (29, true))⟩,
    ⟨.pick, [.t 29, .t 32, .c (.pv (.b false))], (some 33), (some (25, false))⟩,
    ⟨.pick, [.t 25, .c (.pv (.b true)), .t 33], (some 34), (some (23, true))⟩,
    ⟨.pick, [.t 23, .t 34, .c (.pv (.b false))], (some 35), none⟩,
    ⟨.mv, [.t 35], (some 36), none⟩,
    ⟨.mv, [.t 3], (some 37), (some (36, true))⟩,
    ⟨.mv, [.t 37], (some 38), (some (36, true))⟩,
    ⟨(.fa 16), [.t 8], (some 39), (some (38, false))⟩,
    ⟨(.ld 1 false), [.t 39], (some 40), (some (38, false))⟩,
    ⟨.len, [.t 40], (some 41), (some (38, false))⟩,
    ⟨(.bin .eql), [.t 41, .c (.pv (.i .i64 0))], (some 42), (some (38, false))⟩,
    ⟨.pick, [.t 38, .c (.pv (.b true)), .t 42], (some 43), (some (36, true))⟩,
    ⟨.pick, [.t 36, .t 43, .c (.pv (.b false))], (some 44), none⟩,
    ⟨.mv, [.t 44], (some 45), none⟩,
    ⟨.mv, [.t 4], (some 46), (some (45, true))⟩,
    ⟨.mv, [.t 46], (some 47), (some (45, true))⟩,
    ⟨(.fa 17), [.t 8], (some 48), (some (47, false))⟩,
    ⟨(.ld 1 false), [.t 48], (some 49), (some (47, false))⟩,
    ⟨.len, [.t 49], (some 50), (some (47, false))⟩,
    ⟨(.bin .eql), [.t 50, .c (.pv (.i .i64 0))], (some 51), (some (47, false))⟩,
    ⟨.pick, [.t 47, .c (.pv (.b true)), .t 51], (some 52), (some (45, true))⟩,
    ⟨.pick, [.t 45, .t 52, .c (.pv (.b false))], (some 53), none⟩,
    ⟨.mv, [.t 53], (some 54), none⟩,
    ⟨.mv, [.t 5], (some 55), (some (54, true))⟩,
    ⟨.mv, [.t 55], (some 56), (some (54, true))⟩,
    ⟨(.fa 18), [.t 8], (some 57), (some (56, false))⟩,
    ⟨(.ld 1 false), [.t 57], (some 58), (some (56, false))⟩,
    ⟨(.bin .eql), [.t 58, .c (.pv (.i .i64 0))], (some 59), (some (56, false))⟩,
    ⟨.pick, [.t 56, .c (.pv (.b true)), .t 59], (some 60), (some (54, true))⟩,
    ⟨.pick, [.t 54, .t 60, .c (.pv (.b false))], (some 61), none⟩,
    ⟨.mv, [.t 61], (some 62), none⟩,
    ⟨.mv, [.t 6], (some 63), (some (62, true))⟩,
    ⟨.mv, [.t 63], (some 64), (some (62, true))⟩,
    ⟨(.fa 19), [.t 8], (some 65), (some (64, false))⟩,
    ⟨(.ld 1 false), [.t 65], (some 66), (some (64, false))⟩,
    ⟨(.bin .eql), [.t 66, .c (.pv (.s []))], (some 67), (some (64, false))⟩,
    ⟨.pick, [.t 64, .c (.pv (.b true)), .t 67], (some 68), (some (62, true))⟩,
    ⟨.pick, [.t 62, .t 68, .c (.pv (.b false))], (some 69), none⟩,
    ⟨.mv, [.t 69], (some 70), none⟩,
    ⟨.mv, [.t 7], (some 71), (some (70, true))⟩,
    ⟨.mv, [.t 71], (some 72), (some (70, true))⟩,
    ⟨(.fa 20), [.t 8], (some 73), (some (72, false))⟩,
    ⟨(.ld 1 false), [.t 73], (some 74), (some (72, false))⟩,
    ⟨(.bin .eql), [.t 74, .c (.pv (.i .i64 0))], (some 75), (some (72, false))⟩,
    ⟨.pick, [.t 72, .c (.pv (.b true)), .t 75], (some 76), (some (70, true))⟩,
    ⟨.pick, [.t 70, .t 76, .c (.pv (.b false))], (some 77), none⟩,
    ⟨.mv, [.t 77], (some 16), none⟩])
  .ret))
theorem fn85 : fnOf Try.prog 85 = some (78, [.t 16], ir85) := by kernel_rfl
def ir86 : C :=
  (.seq (.ops [⟨.mv, [.c (.pv (.b false))], (some 2), none⟩])
  (.seq (.ops [⟨.mv, [.t 0], (some 3), none⟩,
    ⟨(.bin .geq), [.t 3, .c (.pv (.i .i32 97))], (some 4), none⟩,
    ⟨.mv, [.t 4], (some 5), none⟩,
    ⟨.mv, [.t 0], (some 6), (some (5, true))⟩,
    ⟨(.bin .leq), [.t 6, .c (.pv (.i .i32 122))], (some 7), (some (5, true))⟩,
    ⟨.pick, [.t 5, .t 7, .c (.pv (.b false))], (some 8), none⟩,
    ⟨.mv, [.t 8], (some 9), none⟩,
    ⟨.mv, [.t 0], (some 10), (some (9, false))⟩,
    ⟨(.bin .geq), [.t 10, .c (.pv (.i .i32 65))], (some 11), (some (9, false))⟩,
    ⟨.mv, [.t 11], (some 12), (some (9, false))⟩,
    ⟨.mv, [.t 0], (some 13), (some (12, true))⟩,
    ⟨(.bin .leq), [.t 13, .c (.pv (.i .i32 90))], (some 14), (some (12, true))⟩,
    ⟨.pick, [.t 12, .t 14, .c (.pv (.b false))], (some 15), (some (9, false))⟩,
    ⟨.pick, [.t 9, .c (.pv (.b true)), .t 15], (some 16), none⟩,
    ⟨.mv, [.t 16], (some 2), none⟩])
  .ret))
theorem fn86 : fnOf Try.prog 86 = some (17, [.t 2], ir86) := by kernel_rfl
def ir87 : C :=
  (.seq (.ops [⟨.mv, [.c (.pv (.b false))], (some 4), none⟩])
  (.seq (.ops [⟨.mv, [.t 0], (some 5), none⟩,
    ⟨.mv, [.t 1], (some 6), none⟩,
    ⟨(.call 120), [.t 5, .t 6], (some 7), none⟩,
    ⟨(.bin .geq), [.t 7, .c (.pv (.i .i64 0))], (some 8), none⟩,
    ⟨.mv, [.t 8], (some 4), none⟩])
  .ret))
theorem fn87 : fnOf Try.prog 87 = some (9, [.t 4], ir87) := by kernel_rfl
def ir88 : C :=
  (.seq (.ops [⟨.mv, [.c (.pv (.sl true 0 []))], (some 2), none⟩,
    ⟨.mv, [.c (.pv (.i .i64 0))], (some 3), none⟩])
  (.seq (.ops [⟨(.bsl 1), [], (some 8), none⟩,
    ⟨.mv, [.t 8], (some 4), none⟩])
  (.seq (.seq (.ops [⟨.mv, [.t 0], (some 9), none⟩,
    ⟨.len, [.t 9], (some 10), none⟩,
    ⟨.mv, [.c (.pv (.i .i64 0))], (some 11), none⟩])
  (.block 0 (.loop (.seq (.ops [⟨(.bin .lss), [.t 11, .t 10], (some 12), none⟩])
      (.seq (.ite (.t 12) .skip
        (.exit 0))
      (.seq (.block 1 (.seq (.ops [⟨(.iaS 1), [.t 9, .t 11], (some 13), none⟩,
          ⟨(.ld 1 false), [.t 13], (some 14), none⟩,
          ⟨.mv, [.t 14], (some 6), none⟩])
        (.seq (.seq (.ops [⟨.mv, [.t 6], (some 15), none⟩,
          ⟨.len, [.t 15], (some 16), none⟩,
          ⟨.mv, [.t 16], (some 7), none⟩])
        (.block 2 (.seq (.ops [⟨.mv, [.t 7], (some 26), none⟩,
            ⟨(.bin .gtr), [.t 26, .c (.pv (.i .i64 65535))], (some 27), none⟩,
            ⟨.mv, [.t 27], (some 25), none⟩])
          (.ite (.t 25) (.seq (.ops [⟨.mv, [.c (.pv (.sl true 0 []))], (some 2), none⟩,
              ⟨.mv, [.c (.pv (.i .i64 4))], (some 3), none⟩])
            .ret)
            (.seq (.ops [⟨.mv, [.t 7], (some 29), none⟩,
              ⟨(.bin .lss), [.t 29, .c (.pv (.i .i64 255))], (some 30), none⟩,
              ⟨.mv, [.t 30], (some 28), none⟩])
            (.ite (.t 28) (.ops [⟨.mv, [.t 4], (some 31), none⟩,
                ⟨.mv, [.t 7], (some 32), none⟩,
                ⟨(.cvI .u8), [.t 32], (some 33), none⟩,
                ⟨(.bsl 1), [.t 33], (some 34), none⟩,
                ⟨(.app 1 1), [.t 31, .t 34], (some 35), none⟩,
                ⟨.mv, [.t 35], (some 4), none⟩])
              (.ops [⟨.mv, [.t 4], (some 17), none⟩,
                ⟨.mv, [.t 7], (some 18), none⟩,
                ⟨(.bin .shr), [.t 18, .c (.pv (.i .u64 8))], (some 19), none⟩,
                ⟨(.cvI .u8), [.t 19], (some 20), none⟩,
                ⟨.mv, [.t 7], (some 21), none⟩,
                ⟨(.cvI .u8), [.t 21], (some 22), none⟩,
                ⟨(.bsl 1), [.c (.pv (.i .u8 255)), .t 20, .t 22], (some 23), none⟩,
                ⟨(.app 1 1), [.t 17, .t 23], (some 24), none⟩,
                ⟨.mv, [.t 24], (some 4), none⟩])))))))
        (.ops [⟨.mv, [.t 4], (some 36), none⟩,
          ⟨.mv, [.t 6], (some 37), none⟩,
          ⟨(.app 1 1), [.t 36, .t 37], (some 38), none⟩,
          ⟨.mv, [.t 38], (some 4), none⟩]))))
      (.ops [⟨(.bin .add), [.t 11, .c (.pv (.i .i64 1))], (some 39), none⟩,
        ⟨.mv, [.t 39], (some 11), none⟩])))))))
  (.seq (.ops [⟨.mv, [.t 4], (some 40), none⟩,
    ⟨.mv, [.t 40], (some 2), none⟩,
    ⟨.mv, [.c (.pv (.i .i64 0))], (some 3), none⟩])
  .ret))))
theorem fn88 : fnOf Try.prog 88 = some (41, [.t 2, .t 3], ir88) := by kernel_rfl
def ir89 : C :=
  (.seq (.ops [⟨.mv, [.c (.pv (.sl true 0 []))], (some 2), none⟩])
  (.seq (.ops [⟨(.bsl 1), [], (some 6), none⟩,
    ⟨.mv, [.t 6], (some 3), none⟩])
  (.seq (.seq (.ops [⟨.mv, [.c (.pv (.i .i64 56))], (some 4), none⟩])
  (.block 0 (.loop (.seq (.seq (.ops [⟨.mv, [.t 4], (some 7), none⟩,
        ⟨(.bin .geq), [.t 7, .c (.pv (.i .i64 0))], (some 8), none⟩])
      (.ite (.t 8) .skip
        (.exit 0)))
      (.seq (.block 1 (.seq (.ops [⟨.mv, [.t 0], (some 11), none⟩,
          ⟨.mv, [.t 4], (some 12), none⟩,
          ⟨(.bin .shr), [.t 11, .t 12], (some 13), none⟩,
          ⟨(.cvI .u8), [.t 13], (some 14), none⟩,
          ⟨.mv, [.t 14], (some 5), none⟩])
        (.seq (.ops [⟨.mv, [.t 5], (some 15), none⟩,
          ⟨(.bin .neq), [.t 15, .c (.pv (.i .u8 0))], (some 16), none⟩,
          ⟨.mv, [.t 16], (some 17), none⟩,
          ⟨.mv, [.t 3], (some 18), (some (17, false))⟩,
          ⟨.len, [.t 18], (some 19), (some (17, false))⟩,
          ⟨(.bin .gtr), [.t 19, .c (.pv (.i .i64 0))], (some 20), (some (17, false))⟩,
          ⟨.pick, [.t 17, .c (.pv (.b true)), .t 20], (some 21), none⟩])
        (.ite (.t 21) (.ops [⟨.mv, [.t 3], (some 22), none⟩,
            ⟨.mv, [.t 5], (some 23), none⟩,
            ⟨(.bsl 1), [.t 23], (some 24), none⟩,
            ⟨(.app 1 1), [.t 22, .t 24], (some 25), none⟩,
            ⟨.mv, [.t 25], (some 3), none⟩])
          .skip))))
      (.ops [⟨.mv, [.t 4], (some 9), none⟩,
        ⟨(.bin .sub), [.t 9, .c (.pv (.i .i64 8))], (some 10), none⟩,
        ⟨.mv, [.t 10], (some 4), none⟩]))))))
  (.seq (.ops [⟨.mv, [.t 3], (some 26), none⟩,
    ⟨.mv, [.t 26], (some 2), none⟩])
  .ret))))
theorem fn89 : fnOf Try.prog 89 = some (27, [.t 2], ir89) := by kernel_rfl
def ir90 : C :=
  (.seq (.ops [⟨.box, [.t 0], (some 1), none⟩,
    ⟨.mv, [.c (.pv (.sl true 0 []))], (some 2), none⟩])
  (.seq (.seq (.ops [⟨(.ld 2 true), [.t 1], (some 3), none⟩,
    ⟨(.bld [1, 1]), [.c (.pv (.i .i64 0)), .c (.pv (.i .u32 0))], (some 4), none⟩,
    ⟨(.eqv false [.int .i64, .int .u32]), [.t 3, .t 4], (some 5), none⟩])
  (.ite (.t 5) (.seq (.ops [⟨.mv, [.c (.pv (.sl true 0 []))], (some 2), none⟩])
    .ret)
    .skip))
  (.seq (.any [9, 13, 14] [(⟨(.fa 0), [.t 1], (some 6), none⟩, 0, [9, 13, 14]),
    (⟨(.ld 1 false), [.t 6], (some 7), none⟩, 1, [9, 13, 14]),
    (⟨(.cvI .u8), [.t 7], (some 8), none⟩, 0, [9, 13, 14]),
    (⟨(.bsl 1), [.t 8], (some 9), none⟩, 1, [9, 13, 14]),
    (⟨(.fa 1), [.t 1], (some 10), none⟩, 0, [9, 13, 14]),
    (⟨(.ld 1 false), [.t 10], (some 11), none⟩, 1, [9, 13, 14]),
    (⟨(.cvI .u64), [.t 11], (some 12), none⟩, 0, [9, 13, 14]),
    (⟨(.call 89), [.t 12], (some 13), none⟩, 1, [9, 13, 14]),
    (⟨(.app 1 1), [.t 9, .t 13], (some 14), none⟩, 2, [14]),
    (⟨.mv, [.t 14], (some 2), none⟩, 0, [])])
  .ret)))
theorem fn90 : fnOf Try.prog 90 = some (15, [.t 2], ir90) := by kernel_rfl
def ir91 : C :=
  (.seq (.ops [⟨.mv, [.c (.pv (.sl true 0 []))], (some 2), none⟩])
  (.seq (.ops [⟨.mv, [.c (.pv (.sl true 0 []))], (some 3), none⟩])
  (.seq (.seq (.ops [⟨.mv, [.t 0], (some 8), none⟩,
    ⟨.len, [.t 8], (some 9), none⟩,
    ⟨.mv, [.c (.pv (.i .i64 0))], (some 10), none⟩])
  (.block 0 (.loop (.seq (.ops [⟨(.bin .lss), [.t 10, .t 9], (some 11), none⟩])
      (.seq (.ite (.t 11) .skip
        (.exit 0))
      (.seq (.block 1 (.seq (.ops [⟨(.iaS 2), [.t 8, .t 10], (some 12), none⟩,
          ⟨(.ld 2 true), [.t 12], (some 13), none⟩,
          ⟨(.new (.agg [.pv (.i .i64 0), .pv (.i .u32 0)])), [], (some 5), none⟩,
          ⟨(.sto 2), [.t 5, .t 13], none, none⟩])
        (.ops [⟨.mv, [.t 3], (some 14), none⟩,
          ⟨(.ld 2 true), [.t 5], (some 15), none⟩,
          ⟨(.call 90), [.t 15], (some 16), none⟩,
          ⟨(.bsl 1), [.t 16], (some 17), none⟩,
          ⟨(.app 1 24), [.t 14, .t 17], (some 18), none⟩,
          ⟨.mv, [.t 18], (some 3), none⟩])))
      (.ops [⟨(.bin .add), [.t 10, .c (.pv (.i .i64 1))], (some 19), none⟩,
        ⟨.mv, [.t 19], (some 10), none⟩])))))))
  (.seq (.ops [⟨.mv, [.t 3], (some 21), none⟩,
    ⟨(.call 88), [.t 21], (some 22), none⟩,
    ⟨.mv, [.t 22], (some 20), none⟩,
    ⟨(.ext 0), [.t 20], (some 23), none⟩,
    ⟨(.ext 1), [.t 20], (some 24), none⟩,
    ⟨.mv, [.t 23], (some 6), none⟩,
    ⟨.mv, [.t 24], (some 7), none⟩])
  (.seq (.ops [⟨.mv, [.t 6], (some 25), none⟩,
    ⟨.mv, [.t 25], (some 2), none⟩])
  .ret)))))
theorem fn91 : fnOf Try.prog 91 = some (26, [.t 2], ir91) := by kernel_rfl
def ir92 : C :=
  (.seq (.ops [⟨.box, [.t 1], (some 3), none⟩,
    ⟨(.new (.pv (.sl true 0 []))), [], (some 4), none⟩,
    ⟨(.new (.pv (.i .i64 0))), [], (some 5), none⟩])
  (.seq (.ops [⟨(.new (.pv (.sl true 0 []))), [], (some 6), none⟩])
  (.seq (.seq (.ops [⟨.mv, [.t 0], (some 9), none⟩,
    ⟨(.call 121), [.t 9], (some 10), none⟩])
  (.block 0 (.rng (.t 10) [11, 12] (.seq (.ops [⟨.mv, [.t 11], (some 7), none⟩])
      (.ops [⟨.mv, [.t 12], (some 8), none⟩]))
      (.block 1 (.seq (.seq (.ops [⟨.mv, [.t 8], (some 13), none⟩,
          ⟨(.bin .neq), [.t 13, .c (.pv (.i .i64 0))], (some 14), none⟩])
        (.ite (.t 14) (.seq (.ops [⟨.mv, [.t 8], (some 15), none⟩,
            ⟨(.sto 1), [.t 4, .c (.pv (.sl true 0 []))], none, none⟩,
            ⟨(.sto 1), [.t 5, .t 15], none, none⟩])
          .ret)
          .skip))
        (.seq (.seq (.ops [⟨(.ld 1 false), [.t 6], (some 16), none⟩,
          ⟨.len, [.t 16], (some 17), none⟩,
          ⟨(.ld 1 false), [.t 3], (some 18), none⟩,
          ⟨(.bin .geq), [.t 17, .t 18], (some 19), none⟩])
        (.ite (.t 19) (.seq (.ops [⟨(.sto 1), [.t 4, .c (.pv (.sl true 0 []))], none, none⟩,
            ⟨(.sto 1), [.t 5, .c (.pv (.i .i64 4))], none, none⟩])
          .ret)
          .skip))
        (.ops [⟨(.ld 1 false), [.t 6], (some 20), none⟩,
          ⟨.mv, [.t 7], (some 21), none⟩,
          ⟨(.bsl 1), [.t 21], (some 22), none⟩,
          ⟨(.app 1 24), [.t 20, .t 22], (some 23), none⟩,
          ⟨(.sto 1), [.t 6, .t 23], none, none⟩])))))))
  (.seq (.ops [⟨(.ld 1 false), [.t 6], (some 24), none⟩,
    ⟨(.sto 1), [.t 4, .t 24], none, none⟩,
    ⟨(.sto 1), [.t 5, .c (.pv (.i .i64 0))], none, none⟩])
  .ret))))
theorem fn92 : fnOf Try.prog 92 = some (25, [.c 4 1 false, .c 5 1 false], ir92) := by kernel_rfl
def ir93 : C :=
  (.seq (.ops [⟨.mv, [.c (.pv (.i .i64 0))], (some 2), none⟩])
  (.seq (.ops [⟨.mv, [.t 0], (some 6), none⟩,
    ⟨(.call 112), [.t 6], (some 7), none⟩,
    ⟨.mv, [.t 7], (some 5), none⟩,
    ⟨(.ext 0), [.t 5], (some 8), none⟩,
    ⟨(.ext 1), [.t 5], (some 9), none⟩,
    ⟨.mv, [.t 8], (some 3), none⟩,
    ⟨.mv, [.t 9], (some 4), none⟩])
  (.seq (.seq (.ops [⟨.mv, [.t 4], (some 10), none⟩,
    ⟨(.bin .neq), [.t 10, .c (.pv (.i .i64 0))], (some 11), none⟩,
    ⟨.mv, [.t 11], (some 12), none⟩,
    ⟨.mv, [.t 3], (some 13), (some (12, false))⟩,
    ⟨(.bin .gtr), [.t 13, .c (.pv (.i .u64 1073741824))], (some 14), (some (12, false))⟩,
    ⟨.pick, [.t 12, .c (.pv (.b true)), .t 14], (some 15), none⟩])
  (.ite (.t 15) (.seq (.ops [⟨.mv, [.c (.pv (.i .i64 (-1)))], (some 2), none⟩])
    .ret)
    .skip))
  (.seq (.ops [⟨.mv, [.t 3], (some 16), none⟩,
    ⟨(.cvI .i64), [.t 16], (some 17), none⟩,
    ⟨.mv, [.t 17], (some 2), none⟩])
  .ret))))
theorem fn93 : fnOf Try.prog 93 = some (18, [.t 2], ir93) := by kernel_rfl
def ir94 : C :=
  (.seq (.ops [⟨(.new (.agg [.pv (.i .i64 0), .pv (.i .u32 0)])), [], (some 2), none⟩])
  (.seq (.seq (.ops [⟨.mv, [.t 0], (some 5), none⟩,
    ⟨.len, [.t 5], (some 6), none⟩,
    ⟨(.bin .eql), [.t 6, .c (.pv (.i .i64 0))], (some 7), none⟩])
  (.ite (.t 7) (.seq (.ops [⟨(.bld [1, 1]), [.c (.pv (.i .i64 0)), .c (.pv (.i .u32 0))], (some 8), none⟩,
      ⟨(.sto 2), [.t 2, .t 8], none, none⟩])
    .ret)
    .skip))
  (.seq (.ops [⟨.mv, [.t 0], (some 10), none⟩,
    ⟨(.slc 1 true false false), [.t 10, .c (.pv (.i .i64 1))], (some 11), none⟩,
    ⟨(.call 112), [.t 11], (some 12), none⟩,
    ⟨.mv, [.t 12], (some 9), none⟩,
    ⟨(.ext 0), [.t 9], (some 13), none⟩,
    ⟨(.ext 1), [.t 9], (some 14), none⟩,
    ⟨.mv, [.t 13], (some 3), none⟩,
    ⟨.mv, [.t 14], (some 4), none⟩])
  (.seq (.seq (.ops [⟨.mv, [.t 4], (some 15), none⟩,
    ⟨(.bin .neq), [.t 15, .c (.pv (.i .i64 0))], (some 16), none⟩,
    ⟨.mv, [.t 16], (some 17), none⟩,
    ⟨.mv, [.t 3], (some 18), (some (17, false))⟩,
    ⟨(.bin .gtr), [.t 18, .c (.pv (.i .u64 1048576))], (some 19), (some (17, false))⟩,
    ⟨.pick, [.t 17, .c (.pv (.b true)), .t 19], (some 20), none⟩])
  (.ite (.t 20) (.seq (.ops [⟨(.bld [1, 1]), [.c (.pv (.i .i64 0)), .c (.pv (.i .u32 0))], (some 21), none⟩,
      ⟨(.sto 2), [.t 2, .t 21], none, none⟩])
    .ret)
    .skip))
  (.seq (.ops [⟨.mv, [.t 0], (some 22), none⟩,
    ⟨(.iaS 1), [.t 22, .c (.pv (.i .i64 0))], (some 23), none⟩,
    ⟨(.ld 1 false), [.t 23], (some 24), none⟩,
    ⟨(.cvI .i64), [.t 24], (some 25), none⟩,
    ⟨.mv, [.t 3], (some 26), none⟩,
    ⟨(.cvI .u32), [.t 26], (some 27), none⟩,
    ⟨(.bld [1, 1]), [.t 25, .t 27], (some 28), none⟩,
    ⟨(.sto 2), [.t 2, .t 28], none, none⟩])
  .ret)))))
theorem fn94 : fnOf Try.prog 94 = some (29, [.c 2 2 true], ir94) := by kernel_rfl
def ir95 : C :=
  (.seq (.ops [⟨.mv, [.c (.pv (.sl true 0 []))], (some 4), none⟩,
    ⟨.mv, [.c (.pv (.i .i64 0))], (some 5), none⟩])
  (.seq (.ops [⟨.mv, [.t 0], (some 12), none⟩,
    ⟨.mv, [.t 1], (some 13), none⟩,
    ⟨(.call 92), [.t 12, .t 13], (some 14), none⟩,
    ⟨.mv, [.t 14], (some 11), none⟩,
    ⟨(.ext 0), [.t 11], (some 15), none⟩,
    ⟨(.ext 1), [.t 11], (some 16), none⟩,
    ⟨.mv, [.t 15], (some 6), none⟩,
    ⟨.mv, [.t 16], (some 7), none⟩])
  (.seq (.seq (.ops [⟨.mv, [.t 7], (some 17), none⟩,
    ⟨(.bin .neq), [.t 17, .c (.pv (.i .i64 0))], (some 18), none⟩])
  (.ite (.t 18) (.seq (.ops [⟨.mv, [.t 7], (some 19), none⟩,
      ⟨.mv, [.c (.pv (.sl true 0 []))], (some 4), none⟩,
      ⟨.mv, [.t 19], (some 5), none⟩])
    .ret)
    .skip))
  (.seq (.ops [⟨.mv, [.c (.pv (.sl true 0 []))], (some 8), none⟩])
  (.seq (.seq (.ops [⟨.mv, [.t 6], (some 20), none⟩,
    ⟨.len, [.t 20], (some 21), none⟩,
    ⟨.mv, [.c (.pv (.i .i64 0))], (some 22), none⟩])
  (.block 0 (.loop (.seq (.ops [⟨(.bin .lss), [.t 22, .t 21], (some 23), none⟩])
      (.seq (.ite (.t 23) .skip
        (.exit 0))
      (.seq (.block 1 (.seq (.ops [⟨(.iaS 1), [.t 20, .t 22], (some 24), none⟩,
          ⟨(.ld 1 false), [.t 24], (some 25), none⟩,
          ⟨.mv, [.t 25], (some 10), none⟩])
        (.ops [⟨.mv, [.t 8], (some 26), none⟩,
          ⟨.mv, [.t 10], (some 27), none⟩,
          ⟨(.call 94), [.t 27], (some 28), none⟩,
          ⟨(.bsl 2), [.t 28], (some 29), none⟩,
          ⟨(.app 2 16), [.t 26, .t 29], (some 30), none⟩,
          ⟨.mv, [.t 30], (some 8), none⟩])))
      (.ops [⟨(.bin .add), [.t 22, .c (.pv (.i .i64 1))], (some 31), none⟩,
        ⟨.mv, [.t 31], (some 22), none⟩])))))))
  (.seq (.seq (.ops [⟨.mv, [.t 8], (some 32), none⟩,
    ⟨(.call 91), [.t 32], (some 33), none⟩,
    ⟨.mv, [.t 0], (some 34), none⟩,
    ⟨(.call 96), [.t 33, .t 34], (some 35), none⟩,
    ⟨(.un .not), [.t 35], (some 36), none⟩])
  (.ite (.t 36) (.seq (.ops [⟨.mv, [.c (.pv (.sl true 0 []))], (some 4), none⟩,
      ⟨.mv, [.c (.pv (.i .i64 7))], (some 5), none⟩])
    .ret)
    .skip))
  (.seq (.ops [⟨.mv, [.t 8], (some 37), none⟩,
    ⟨.mv, [.t 37], (some 4), none⟩,
    ⟨.mv, [.c (.pv (.i .i64 0))], (some 5), none⟩])
  .ret)))))))
theorem fn95 : fnOf Try.prog 95 = some (38, [.t 4, .t 5], ir95) := by kernel_rfl
def ir96 : C :=
  (.seq (.ops [⟨.mv, [.c (.pv (.b false))], (some 4), none⟩])
  (.seq (.seq (.ops [⟨.mv, [.t 0], (some 6), none⟩,
    ⟨.len, [.t 6], (some 7), none⟩,
    ⟨.mv, [.t 1], (some 8), none⟩,
    ⟨.len, [.t 8], (some 9), none⟩,
    ⟨(.bin .neq), [.t 7, .t 9], (some 10), none⟩])
  (.ite (.t 10) (.seq (.ops [⟨.mv, [.c (.pv (.b false))], (some 4), none⟩])
    .ret)
    .skip))
  (.seq (.seq (.ops [⟨.mv, [.t 0], (some 11), none⟩,
    ⟨.len, [.t 11], (some 12), none⟩,
    ⟨.mv, [.c (.pv (.i .i64 0))], (some 13), none⟩])
  (.block 0 (.loop (.seq (.ops [⟨(.bin .lss), [.t 13, .t 12], (some 14), none⟩])
      (.seq (.ite (.t 14) .skip
        (.exit 0))
      (.seq (.block 1 (.seq (.ops [⟨.mv, [.t 13], (some 15), none⟩,
          ⟨.mv, [.t 15], (some 5), none⟩])
        (.seq (.any [] [(⟨.mv, [.t 0], (some 16), none⟩, 0, []),
          (⟨.mv, [.t 5], (some 17), none⟩, 0, []),
          (⟨(.iaS 1), [.t 16, .t 17], (some 18), none⟩, 1, []),
          (⟨(.ld 1 false), [.t 18], (some 19), none⟩, 1, []),
          (⟨.mv, [.t 1], (some 20), none⟩, 0, []),
          (⟨.mv, [.t 5], (some 21), none⟩, 0, []),
          (⟨(.iaS 1), [.t 20, .t 21], (some 22), none⟩, 1, []),
          (⟨(.ld 1 false), [.t 22], (some 23), none⟩, 1, []),
          (⟨(.bin .neq), [.t 19, .t 23], (some 24), none⟩, 0, [])])
        (.ite (.t 24) (.seq (.ops [⟨.mv, [.c (.pv (.b false))], (some 4), none⟩])
          .ret)
          .skip))))
      (.ops [⟨(.bin .add), [.t 13, .c (.pv (.i .i64 1))], (some 25), none⟩,
        ⟨.mv, [.t 25], (some 13), none⟩])))))))
  (.seq (.ops [⟨.mv, [.c (.pv (.b true))], (some 4), none⟩])
  .ret))))
theorem fn96 : fnOf Try.prog 96 = some (26, [.t 4], ir96) := by kernel_rfl
def ir97 : C :=
  (.seq (.ops [⟨.mv, [.c (.pv (.s []))], (some 2), none⟩,
    ⟨.mv, [.c (.pv (.i .i64 0))], (some 3), none⟩])
  (.seq (.ops [⟨.mv, [.c (.pv (.s []))], (some 4), none⟩])
  (.seq (.seq (.ops [⟨.mv, [.c (.pv (.i .i64 0))], (some 5), none⟩])
  (.block 0 (.loop (.seq (.seq (.ops [⟨.mv, [.t 5], (some 8), none⟩,
        ⟨.mv, [.t 0], (some 9), none⟩,
        ⟨.len, [.t 9], (some 10), none⟩,
        ⟨(.bin .lss), [.t 8, .t 10], (some 11), none⟩])
      (.ite (.t 11) .skip
        (.exit 0)))
      (.seq (.block 1 (.seq (.ops [⟨.mv, [.t 0], (some 15), none⟩,
          ⟨.mv, [.t 5], (some 16), none⟩,
          ⟨(.iaS 1), [.t 15, .t 16], (some 17), none⟩,
          ⟨(.ld 1 false), [.t 17], (some 18), none⟩,
          ⟨(.call 122), [.t 18], (some 19), none⟩,
          ⟨.mv, [.t 19], (some 14), none⟩,
          ⟨(.ext 0), [.t 14], (some 20), none⟩,
          ⟨(.ext 1), [.t 14], (some 21), none⟩,
          ⟨.mv, [.t 20], (some 6), none⟩,
          ⟨.mv, [.t 21], (some 7), none⟩])
        (.seq (.seq (.ops [⟨.mv, [.t 7], (some 22), none⟩,
          ⟨(.un .not), [.t 22], (some 23), none⟩])
        (.ite (.t 23) (.seq (.ops [⟨.mv, [.c (.pv (.s []))], (some 2), none⟩,
            ⟨.mv, [.c (.pv (.i .i64 4))], (some 3), none⟩])
          .ret)
          .skip))
        (.ops [⟨.mv, [.t 4], (some 24), none⟩,
          ⟨.mv, [.t 6], (some 25), none⟩,
          ⟨(.bin .add), [.t 24, .t 25], (some 26), none⟩,
          ⟨.mv, [.t 26], (some 4), none⟩]))))
      (.ops [⟨.mv, [.t 5], (some 12), none⟩,
        ⟨(.bin .add), [.t 12, .c (.pv (.i .i64 1))], (some 13), none⟩,
        ⟨.mv, [.t 13], (some 5), none⟩]))))))
  (.seq (.ops [⟨.mv, [.t 4], (some 27), none⟩,
    ⟨.mv, [.t 27], (some 2), none⟩,
    ⟨.mv, [.c (.pv (.i .i64 0))], (some 3), none⟩])
  .ret))))
theorem fn97 : fnOf Try.prog 97 = some (28, [.t 2, .t 3], ir97) := by kernel_rfl
def ir98 : C :=
  (.seq (.ops [⟨.mv, [.c (.pv (.s []))], (some 2), none⟩])
  (.seq (.seq (.ops [⟨.mv, [.t 0], (some 3), none⟩,
    ⟨(.bin .eql), [.t 3, .c (.pv (.i .u64 0))], (some 4), none⟩])
  (.ite (.t 4) (.seq (.ops [⟨.mv, [.c (.pv (.s []))], (some 2), none⟩])
    .ret)
    .skip))
  (.seq (.any [7, 11] [(⟨.mv, [.t 0], (some 5), none⟩, 0, [7, 11]),
    (⟨(.bin .quo), [.t 5, .c (.pv (.i .u64 256))], (some 6), none⟩, 0, [7, 11]),
    (⟨(.call 98), [.t 6], (some 7), none⟩, 1, [7, 11]),
    (⟨.mv, [.t 0], (some 8), none⟩, 0, [7, 11]),
    (⟨(.bin .rem), [.t 8, .c (.pv (.i .u64 256))], (some 9), none⟩, 0, [7, 11]),
    (⟨(.cvI .u8), [.t 9], (some 10), none⟩, 0, [7, 11]),
    (⟨(.bsl 1), [.t 10], (some 11), none⟩, 1, [7, 11]),
    (⟨.b2s, [.t 11], (some 12), none⟩, 1, [7]),
    (⟨(.bin .add), [.t 7, .t 12], (some 13), none⟩, 0, [11]),
    (⟨.mv, [.t 13], (some 2), none⟩, 0, [])])
  .ret)))
theorem fn98 : fnOf Try.prog 98 = some (14, [.t 2], ir98) := by kernel_rfl
def ir99 : C :=
  (.seq (.ops [⟨.box, [.t 0], (some 2), none⟩,
    ⟨.box, [.t 1], (some 3), none⟩,
    ⟨.mv, [.c (.pv (.s []))], (some 4), none⟩])
  (.seq (.ops [⟨.mv, [.c (.pv (.i .u8 0))], (some 5), none⟩,
    ⟨.mv, [.c (.pv (.i .u8 0))], (some 6), none⟩,
    ⟨.mv, [.c (.pv (.s []))], (some 7), none⟩])
  (.seq (.seq (.ops [⟨.mv, [.c (.pv (.i .i64 0))], (some 8), none⟩])
  (.block 0 (.loop (.seq (.seq (.ops [⟨.mv, [.t 8], (some 11), none⟩,
        ⟨(.bin .lss), [.t 11, .c (.pv (.i .i64 8))], (some 12), none⟩])
      (.ite (.t 12) .skip
        (.exit 0)))
      (.seq (.block 1 (.seq (.any [] [(⟨.mv, [.t 8], (some 15), none⟩, 0, []),
          (⟨(.iaA 8 1), [.t 2, .t 15], (some 16), none⟩, 0, []),
          (⟨(.ld 1 false), [.t 16], (some 17), none⟩, 1, []),
          (⟨(.cvI .i64), [.t 17], (some 18), none⟩, 0, []),
          (⟨.mv, [.t 8], (some 19), none⟩, 0, []),
          (⟨(.iaA 8 1), [.t 3, .t 19], (some 20), none⟩, 0, []),
          (⟨(.ld 1 false), [.t 20], (some 21), none⟩, 1, []),
          (⟨(.cvI .i64), [.t 21], (some 22), none⟩, 0, []),
          (⟨(.bin .sub), [.t 18, .t 22], (some 23), none⟩, 0, []),
          (⟨.mv, [.t 23], (some 9), none⟩, 0, [])])
        (.seq (.seq (.ops [⟨.mv, [.t 9], (some 24), none⟩,
          ⟨(.bin .gtr), [.t 24, .c (.pv (.i .i64 0))], (some 25), none⟩])
        (.ite (.t 25) (.ops [⟨.mv, [.t 5], (some 26), none⟩,
            ⟨.mv, [.t 8], (some 27), none⟩,
            ⟨(.call 123), [.t 27], (some 28), none⟩,
            ⟨(.bin .add), [.t 26, .t 28], (some 29), none⟩,
            ⟨.mv, [.t 29], (some 5), none⟩])
          .skip))
        (.seq (.seq (.ops [⟨.mv, [.t 9], (some 30), none⟩,
          ⟨(.bin .lss), [.t 30, .c (.pv (.i .i64 0))], (some 31), none⟩])
        (.ite (.t 31) (.seq (.ops [⟨.mv, [.t 6], (some 32), none⟩,
            ⟨.mv, [.t 8], (some 33), none⟩,
            ⟨(.call 123), [.t 33], (some 34), none⟩,
            ⟨(.bin .add), [.t 32, .t 34], (some 35), none⟩,
            ⟨.mv, [.t 35], (some 6), none⟩])
          (.ops [⟨.mv, [.t 9], (some 36), none⟩,
            ⟨(.un .neg), [.t 36], (some 37), none⟩,
            ⟨.mv, [.t 37], (some 9), none⟩]))
          .skip))
        (.seq (.ops [⟨.mv, [.t 9], (some 38), none⟩,
          ⟨(.bin .neq), [.t 38, .c (.pv (.i .i64 0))], (some 39), none⟩])
        (.ite (.t 39) (.seq (.ops [⟨.mv, [.t 9], (some 40), none⟩,
            ⟨(.cvI .u64), [.t 40], (some 41), none⟩,
            ⟨(.call 98), [.t 41], (some 42), none⟩,
            ⟨.mv, [.t 42], (some 10), none⟩])
          (.ops [⟨.mv, [.t 7], (some 43), none⟩,
            ⟨.mv, [.t 10], (some 44), none⟩,
            ⟨.lenS, [.t 44], (some 45), none⟩,
            ⟨(.cvI .u8), [.t 45], (some 46), none⟩,
            ⟨(.bsl 1), [.t 46], (some 47), none⟩,
            ⟨.b2s, [.t 47], (some 48), none⟩,
            ⟨.mv, [.t 10], (some 49), none⟩,
            ⟨(.bin .add), [.t 48, .t 49], (some 50), none⟩,
            ⟨(.bin .add), [.t 43, .t 50], (some 51), none⟩,
            ⟨.mv, [.t 51], (some 7), none⟩]))
          .skip))))))
      (.ops [⟨.mv, [.t 8], (some 13), none⟩,
        ⟨(.bin .add), [.t 13, .c (.pv (.i .i64 1))], (some 14), none⟩,
        ⟨.mv, [.t 14], (some 8), none⟩]))))))
  (.seq (.ops [⟨.mv, [.t 5], (some 52), none⟩,
    ⟨.mv, [.t 6], (some 53), none⟩,
    ⟨(.bsl 1), [.t 52, .t 53], (some 54), none⟩,
    ⟨.b2s, [.t 54], (some 55), none⟩,
    ⟨.mv, [.t 7], (some 56), none⟩,
    ⟨(.bin .add), [.t 55, .t 56], (some 57), none⟩,
    ⟨.mv, [.t 57], (some 4), none⟩])
  .ret))))
theorem fn99 : fnOf Try.prog 99 = some (58, [.t 4], ir99) := by kernel_rfl
def ir100 : C :=
  (.seq (.ops [⟨.box, [.t 0], (some 1), none⟩,
    ⟨.mv, [.c (.pv (.s []))], (some 2), none⟩])
  (.seq (.seq (.ops [⟨(.ld 2 true), [.t 1], (some 3), none⟩,
    ⟨(.call 83), [.t 3], (some 4), none⟩])
  (.ite (.t 4) (.seq (.ops [⟨.mv, [.c (.pv (.s []))], (some 2), none⟩])
    .ret)
    .skip))
  (.seq (.any [8, 13] [(⟨(.fa 0), [.t 1], (some 5), none⟩, 0, [8, 13]),
    (⟨(.ld 1 false), [.t 5], (some 6), none⟩, 1, [8, 13]),
    (⟨(.cvI .u8), [.t 6], (some 7), none⟩, 0, [8, 13]),
    (⟨(.bsl 1), [.t 7], (some 8), none⟩, 1, [8, 13]),
    (⟨.b2s, [.t 8], (some 9), none⟩, 1, [13]),
    (⟨(.fa 1), [.t 1], (some 10), none⟩, 0, [8, 13]),
    (⟨(.ld 1 false), [.t 10], (some 11), none⟩, 1, [8, 13]),
    (⟨(.cvI .u64), [.t 11], (some 12), none⟩, 0, [8, 13]),
    (⟨(.call 98), [.t 12], (some 13), none⟩, 1, [8, 13]),
    (⟨(.bin .add), [.t 9, .t 13], (some 14), none⟩, 0, [8]),
    (⟨.mv, [.t 14], (some 2), none⟩, 0, [])])
  .ret)))
theorem fn100 : fnOf Try.prog 100 = some (15, [.t 2], ir100) := by kernel_rfl
def ir101 : C :=
  (.seq (.ops [⟨.mv, [.c (.pv (.s []))], (some 2), none⟩])
  (.seq (.ops [⟨.mv, [.c (.pv (.s []))], (some 3), none⟩])
  (.seq (.seq (.ops [⟨.mv, [.c (.pv (.i .i64 0))], (some 4), none⟩])
  (.block 0 (.loop (.seq (.seq (.ops [⟨.mv, [.t 4], (some 7), none⟩,
        ⟨.mv, [.t 0], (some 8), none⟩,
        ⟨.len, [.t 8], (some 9), none⟩,
        ⟨(.bin .lss), [.t 7, .t 9], (some 10), none⟩])
      (.ite (.t 10) .skip
        (.exit 0)))
      (.seq (.block 1 (.seq (.ops [⟨.mv, [.t 0], (some 14), none⟩,
          ⟨.mv, [.t 4], (some 15), none⟩,
          ⟨(.iaS 2), [.t 14, .t 15], (some 16), none⟩,
          ⟨(.ld 2 true), [.t 16], (some 17), none⟩,
          ⟨(.call 100), [.t 17], (some 18), none⟩,
          ⟨(.call 122), [.t 18], (some 19), none⟩,
          ⟨.mv, [.t 19], (some 13), none⟩,
          ⟨(.ext 0), [.t 13], (some 20), none⟩,
          ⟨(.ext 1), [.t 13], (some 21), none⟩,
          ⟨.mv, [.t 20], (some 5), none⟩,
          ⟨.mv, [.t 21], (some 6), none⟩])
        (.ops [⟨.mv, [.t 3], (some 22), none⟩,
          ⟨.mv, [.t 5], (some 23), none⟩,
          ⟨(.bin .add), [.t 22, .t 23], (some 24), none⟩,
          ⟨.mv, [.t 24], (some 3), none⟩])))
      (.ops [⟨.mv, [.t 4], (some 11), none⟩,
        ⟨(.bin .add), [.t 11, .c (.pv (.i .i64 1))], (some 12), none⟩,
        ⟨.mv, [.t 12], (some 4), none⟩]))))))
  (.seq (.ops [⟨.mv, [.t 3], (some 25), none⟩,
    ⟨.mv, [.t 25], (some 2), none⟩])
  .ret))))
theorem fn101 : fnOf Try.prog 101 = some (26, [.t 2], ir101) := by kernel_rfl
def ir102 : C :=
  (.seq (.ops [⟨.mv, [.c (.pv (.b false))], (some 4), none⟩])
  (.seq (.seq (.ops [⟨.mv, [.t 0], (some 6), none⟩,
    ⟨.len, [.t 6], (some 7), none⟩,
    ⟨.mv, [.t 1], (some 8), none⟩,
    ⟨.len, [.t 8], (some 9), none⟩,
    ⟨(.bin .neq), [.t 7, .t 9], (some 10), none⟩])
  (.ite (.t 10) (.seq (.ops [⟨.mv, [.c (.pv (.b false))], (some 4), none⟩])
    .ret)
    .skip))
  (.seq (.seq (.ops [⟨.mv, [.c (.pv (.i .i64 0))], (some 5), none⟩])
  (.block 0 (.loop (.seq (.seq (.ops [⟨.mv, [.t 5], (some 11), none⟩,
        ⟨.mv, [.t 0], (some 12), none⟩,
        ⟨.len, [.t 12], (some 13), none⟩,
        ⟨(.bin .lss), [.t 11, .t 13], (some 14), none⟩])
      (.ite (.t 14) .skip
        (.exit 0)))
      (.seq (.block 1 (.seq (.any [] [(⟨.mv, [.t 0], (some 17), none⟩, 0, []),
          (⟨.mv, [.t 5], (some 18), none⟩, 0, []),
          (⟨(.iaS 2), [.t 17, .t 18], (some 19), none⟩, 1, []),
          (⟨(.ld 2 true), [.t 19], (some 20), none⟩, 1, []),
          (⟨.mv, [.t 1], (some 21), none⟩, 0, []),
          (⟨.mv, [.t 5], (some 22), none⟩, 0, []),
          (⟨(.iaS 2), [.t 21, .t 22], (some 23), none⟩, 1, []),
          (⟨(.ld 2 true), [.t 23], (some 24), none⟩, 1, []),
          (⟨(.eqv true [.int .i64, .int .u32]), [.t 20, .t 24], (some 25), none⟩, 0, [])])
        (.ite (.t 25) (.seq (.ops [⟨.mv, [.c (.pv (.b false))], (some 4), none⟩])
          .ret)
          .skip)))
      (.ops [⟨.mv, [.t 5], (some 15), none⟩,
        ⟨(.bin .add), [.t 15, .c (.pv (.i .i64 1))], (some 16), none⟩,
        ⟨.mv, [.t 16], (some 5), none⟩]))))))
  (.seq (.ops [⟨.mv, [.c (.pv (.b true))], (some 4), none⟩])
  .ret))))
theorem fn102 : fnOf Try.prog 102 = some (26, [.t 4], ir102) := by kernel_rfl
def ir103 : C :=
  (.seq (.ops [⟨.mv, [.c (.pv (.b false))], (some 4), none⟩])
  (.seq (.seq (.ops [⟨.mv, [.t 0], (some 6), none⟩,
    ⟨.len, [.t 6], (some 7), none⟩,
    ⟨.mv, [.t 1], (some 8), none⟩,
    ⟨.len, [.t 8], (some 9), none⟩,
    ⟨(.bin .neq), [.t 7, .t 9], (some 10), none⟩])
  (.ite (.t 10) (.seq (.ops [⟨.mv, [.c (.pv (.b false))], (some 4), none⟩])
    .ret)
    .skip))
  (.seq (.seq (.ops [⟨.mv, [.t 0], (some 11), none⟩,
    ⟨.len, [.t 11], (some 12), none⟩,
    ⟨.mv, [.c (.pv (.i .i64 0))], (some 13), none⟩])
  (.block 0 (.loop (.seq (.ops [⟨(.bin .lss), [.t 13, .t 12], (some 14), none⟩])
      (.seq (.ite (.t 14) .skip
        (.exit 0))
      (.seq (.block 1 (.seq (.ops [⟨.mv, [.t 13], (some 15), none⟩,
          ⟨.mv, [.t 15], (some 5), none⟩])
        (.seq (.any [] [(⟨.mv, [.t 0], (some 16), none⟩, 0, []),
          (⟨.mv, [.t 5], (some 17), none⟩, 0, []),
          (⟨(.iaS 2), [.t 16, .t 17], (some 18), none⟩, 1, []),
          (⟨(.ld 2 true), [.t 18], (some 19), none⟩, 1, []),
          (⟨.mv, [.t 1], (some 20), none⟩, 0, []),
          (⟨.mv, [.t 5], (some 21), none⟩, 0, []),
          (⟨(.iaS 2), [.t 20, .t 21], (some 22), none⟩, 1, []),
          (⟨(.ld 2 true), [.t 22], (some 23), none⟩, 1, []),
          (⟨(.eqv true [.int .i64, .int .u32]), [.t 19, .t 23], (some 24), none⟩, 0, [])])
        (.ite (.t 24) (.seq (.ops [⟨.mv, [.c (.pv (.b false))], (some 4), none⟩])
          .ret)
          .skip))))
      (.ops [⟨(.bin .add), [.t 13, .c (.pv (.i .i64 1))], (some 25), none⟩,
        ⟨.mv, [.t 25], (some 13), none⟩])))))))
  (.seq (.ops [⟨.mv, [.c (.pv (.b true))], (some 4), none⟩])
  .ret))))
theorem fn103 : fnOf Try.prog 103 = some (26, [.t 4], ir103) := by kernel_rfl
def ir112 : C :=
  (.seq (.ops [⟨.mv, [.c (.pv (.i .u64 0))], (some 2), none⟩,
    ⟨.mv, [.c (.pv (.i .i64 0))], (some 3), none⟩])
  (.seq (.block 0 (.seq (.ops [⟨.mv, [.t 0], (some 8), none⟩,
      ⟨.len, [.t 8], (some 9), none⟩,
      ⟨(.bin .gtr), [.t 9, .c (.pv (.i .i64 8))], (some 10), none⟩,
      ⟨.mv, [.t 10], (some 7), none⟩])
    (.ite (.t 7) (.seq (.ops [⟨.mv, [.c (.pv (.i .u64 0))], (some 2), none⟩,
        ⟨.mv, [.c (.pv (.i .i64 4))], (some 3), none⟩])
      .ret)
      (.seq (.ops [⟨.mv, [.t 0], (some 12), none⟩,
        ⟨.len, [.t 12], (some 13), none⟩,
        ⟨(.bin .gtr), [.t 13, .c (.pv (.i .i64 0))], (some 14), none⟩,
        ⟨.mv, [.t 14], (some 15), none⟩,
        ⟨.mv, [.t 0], (some 16), (some (15, true))⟩,
        ⟨(.iaS 1), [.t 16, .c (.pv (.i .i64 0))], (some 17), (some (15, true))⟩,
        ⟨(.ld 1 false), [.t 17], (some 18), (some (15, true))⟩,
        ⟨(.bin .eql), [.t 18, .c (.pv (.i .u8 0))], (some 19), (some (15, true))⟩,
        ⟨.pick, [.t 15, .t 19, .c (.pv (.b false))], (some 20), none⟩,
        ⟨.mv, [.t 20], (some 11), none⟩])
      (.ite (.t 11) (.seq (.ops [⟨.mv, [.c (.pv (.i .u64 0))], (some 2), none⟩,
          ⟨.mv, [.c (.pv (.i .i64 7))], (some 3), none⟩])
        .ret)
        .skip)))))
  (.seq (.ops [⟨.mv, [.c (.pv (.i .u64 0))], (some 4), none⟩])
  (.seq (.seq (.ops [⟨.mv, [.t 0], (some 21), none⟩,
    ⟨.len, [.t 21], (some 22), none⟩,
    ⟨.mv, [.c (.pv (.i .i64 0))], (some 23), none⟩])
  (.block 1 (.loop (.seq (.ops [⟨(.bin .lss), [.t 23, .t 22], (some 24), none⟩])
      (.seq (.ite (.t 24) .skip
        (.exit 1))
      (.seq (.block 2 (.seq (.ops [⟨(.iaS 1), [.t 21, .t 23], (some 25), none⟩,
          ⟨(.ld 1 false), [.t 25], (some 26), none⟩,
          ⟨.mv, [.t 26], (some 6), none⟩])
        (.ops [⟨.mv, [.t 4], (some 27), none⟩,
          ⟨(.bin .shl), [.t 27, .c (.pv (.i .u64 8))], (some 28), none⟩,
          ⟨.mv, [.t 6], (some 29), none⟩,
          ⟨(.cvI .u64), [.t 29], (some 30), none⟩,
          ⟨(.bin .or), [.t 28, .t 30], (some 31), none⟩,
          ⟨.mv, [.t 31], (some 4), none⟩])))
      (.ops [⟨(.bin .add), [.t 23, .c (.pv (.i .i64 1))], (some 32), none⟩,
        ⟨.mv, [.t 32], (some 23), none⟩])))))))
  (.seq (.ops [⟨.mv, [.t 4], (some 33), none⟩,
    ⟨.mv, [.t 33], (some 2), none⟩,
    ⟨.mv, [.c (.pv (.i .i64 0))], (some 3), none⟩])
  .ret)))))
theorem fn112 : fnOf Try.prog 112 = some (34, [.t 2, .t 3], ir112) := by kernel_rfl
def ir113 : C :=
  (.seq (.ops [⟨.box, [.t 0], (some 2), none⟩,
    ⟨.box, [.t 1], (some 3), none⟩,
    ⟨.mv, [.c (.pv (.b false))], (some 4), none⟩])
  (.seq (.seq (.ops [⟨(.fa 1), [.t 2], (some 5), none⟩,
    ⟨(.ld 1 false), [.t 5], (some 6), none⟩,
    ⟨(.fa 1), [.t 3], (some 7), none⟩,
    ⟨(.ld 1 false), [.t 7], (some 8), none⟩,
    ⟨(.bin .neq), [.t 6, .t 8], (some 9), none⟩])
  (.ite (.t 9) (.seq (.ops [⟨(.fa 1), [.t 2], (some 10), none⟩,
      ⟨(.ld 1 false), [.t 10], (some 11), none⟩,
      ⟨(.fa 1), [.t 3], (some 12), none⟩,
      ⟨(.ld 1 false), [.t 12], (some 13), none⟩,
      ⟨(.bin .lss), [.t 11, .t 13], (some 14), none⟩,
      ⟨.mv, [.t 14], (some 4), none⟩])
    .ret)
    .skip))
  (.seq (.ops [⟨(.fa 0), [.t 2], (some 15), none⟩,
    ⟨(.ld 1 false), [.t 15], (some 16), none⟩,
    ⟨(.fa 0), [.t 3], (some 17), none⟩,
    ⟨(.ld 1 false), [.t 17], (some 18), none⟩,
    ⟨(.bin .lss), [.t 16, .t 18], (some 19), none⟩,
    ⟨.mv, [.t 19], (some 4), none⟩])
  .ret)))
theorem fn113 : fnOf Try.prog 113 = some (20, [.t 4], ir113) := by kernel_rfl
def ir119 : C :=
  (.seq (.ops [⟨.box, [.t 0], (some 2), none⟩,
    ⟨.mv, [.c (.pv (.i .u32 0))], (some 4), none⟩])
  (.seq (.seq (.ops [⟨.mv, [.t 1], (some 5), none⟩,
    ⟨(.bin .lss), [.t 5, .c (.pv (.i .i64 1))], (some 6), none⟩,
    ⟨.mv, [.t 6], (some 7), none⟩,
    ⟨.mv, [.t 1], (some 8), (some (7, false))⟩,
    ⟨(.bin .gtr), [.t 8, .c (.pv (.i .i64 8))], (some 9), (some (7, false))⟩,
    ⟨.pick, [.t 7, .c (.pv (.b true)), .t 9], (some 10), none⟩])
  (.ite (.t 10) (.seq (.ops [⟨.mv, [.c (.pv (.i .u32 0))], (some 4), none⟩])
    .ret)
    .skip))
  (.seq (.ops [⟨.mv, [.t 1], (some 11), none⟩,
    ⟨(.bin .sub), [.t 11, .c (.pv (.i .i64 1))], (some 12), none⟩,
    ⟨(.iaA 8 1), [.t 2, .t 12], (some 13), none⟩,
    ⟨(.ld 1 false), [.t 13], (some 14), none⟩,
    ⟨.mv, [.t 14], (some 4), none⟩])
  .ret)))
theorem fn119 : fnOf Try.prog 119 = some (15, [.t 4], ir119) := by kernel_rfl
def ir120 : C :=
  (.seq (.ops [⟨.mv, [.c (.pv (.i .i64 0))], (some 4), none⟩])
  (.block 0 (.seq (.ops [⟨.mv, [.t 1], (some 161), none⟩,
      ⟨(.bin .leq), [.c (.pv (.i .i32 0)), .t 161], (some 162), none⟩,
      ⟨.mv, [.t 162], (some 163), none⟩,
      ⟨.mv, [.t 1], (some 164), (some (163, true))⟩,
      ⟨(.bin .lss), [.t 164, .c (.pv (.i .i32 128))], (some 165), (some (163, true))⟩,
      ⟨.pick, [.t 163, .t 165, .c (.pv (.b false))], (some 166), none⟩,
      ⟨.mv, [.t 166], (some 160), none⟩])
    (.ite (.t 160) (.seq (.ops [⟨.mv, [.t 0], (some 167), none⟩,
        ⟨.mv, [.t 1], (some 168), none⟩,
        ⟨(.cvI .u8), [.t 168], (some 169), none⟩,
        ⟨(.call 127), [.t 167, .t 169], (some 170), none⟩,
        ⟨.mv, [.t 170], (some 4), none⟩])
      .ret)
      (.seq (.ops [⟨.mv, [.t 1], (some 172), none⟩,
        ⟨(.bin .eql), [.t 172, .c (.pv (.i .i32 65533))], (some 173), none⟩,
        ⟨.mv, [.t 173], (some 171), none⟩])
      (.ite (.t 171) (.seq (.seq (.ops [⟨.mv, [.t 0], (some 174), none⟩,
          ⟨.rgs, [.t 174], (some 175), none⟩])
        (.block 9 (.loop (.seq (.ops [⟨.nxs, [.t 175], (some 176), none⟩,
              ⟨(.ext 0), [.t 176], (some 177), none⟩])
            (.seq (.ite (.t 177) .skip
              (.exit 9))
            (.block 10 (.seq (.ops [⟨(.ext 1), [.t 176], (some 178), none⟩,
                ⟨(.ext 2), [.t 176], (some 179), none⟩,
                ⟨.mv, [.t 178], (some 5), none⟩,
                ⟨.mv, [.t 179], (some 6), none⟩])
              (.seq (.ops [⟨.mv, [.t 6], (some 180), none⟩,
                ⟨(.bin .eql), [.t 180, .c (.pv (.i .i32 65533))], (some 181), none⟩])
              (.ite (.t 181) (.seq (.ops [⟨.mv, [.t 5], (some 182), none⟩,
                  ⟨.mv, [.t 182], (some 4), none⟩])
                .ret)
                .skip)))))))))
        (.seq (.ops [⟨.mv, [.c (.pv (.i .i64 (-1)))], (some 4), none⟩])
        .ret))
        (.seq (.ops [⟨.mv, [.t 1], (some 184), none⟩,
          ⟨(.call 128), [.t 184], (some 185), none⟩,
          ⟨(.un .not), [.t 185], (some 186), none⟩,
          ⟨.mv, [.t 186], (some 183), none⟩])
        (.ite (.t 183) (.seq (.ops [⟨.mv, [.c (.pv (.i .i64 (-1)))], (some 4), none⟩])
          .ret)
          (.seq (.ops [⟨.mv, [.t 1], (some 17), none⟩,
            ⟨.r2s, [.t 17], (some 18), none⟩,
            ⟨.mv, [.t 18], (some 7), none⟩])
          (.seq (.ops [⟨.mv, [.t 7], (some 19), none⟩,
            ⟨.lenS, [.t 19], (some 20), none⟩,
            ⟨(.bin .sub), [.t 20, .c (.pv (.i .i64 1))], (some 21), none⟩,
            ⟨.mv, [.t 21], (some 8), none⟩])
          (.seq (.ops [⟨.mv, [.t 8], (some 22), none⟩,
            ⟨.mv, [.t 22], (some 9), none⟩])
          (.seq (.ops [⟨.mv, [.c (.pv (.i .i64 0))], (some 10), none⟩])
          (.seq (.block 1 (.loop (.seq (.seq (.ops [⟨.mv, [.t 9], (some 23), none⟩,
                ⟨.mv, [.t 0], (some 24), none⟩,
                ⟨.lenS, [.t 24], (some 25), none⟩,
                ⟨(.bin .lss), [.t 23, .t 25], (some 26), none⟩])
              (.ite (.t 26) .skip
                (.exit 1)))
              (.block 2 (.seq (.seq (.any [] [(⟨.mv, [.t 0], (some 27), none⟩, 0, []),
                  (⟨.mv, [.t 9], (some 28), none⟩, 0, []),
                  (⟨.ixS, [.t 27, .t 28], (some 29), none⟩, 0, []),
                  (⟨.mv, [.t 7], (some 30), none⟩, 0, []),
                  (⟨.mv, [.t 8], (some 31), none⟩, 0, []),
                  (⟨.ixS, [.t 30, .t 31], (some 32), none⟩, 0, []),
                  (⟨(.bin .neq), [.t 29, .t 32], (some 33), none⟩, 0, [])])
                (.ite (.t 33) (.seq (.any [41] [(⟨.mv, [.t 0], (some 34), none⟩, 0, [41]),
                    (⟨.mv, [.t 9], (some 35), none⟩, 0, [41]),
                    (⟨(.bin .add), [.t 35, .c (.pv (.i .i64 1))], (some 36), none⟩, 0, [41]),
                    (⟨(.sls true false), [.t 34, .t 36], (some 37), none⟩, 0, [41]),
                    (⟨.mv, [.t 7], (some 38), none⟩, 0, [41]),
                    (⟨.mv, [.t 8], (some 39), none⟩, 0, [41]),
                    (⟨.ixS, [.t 38, .t 39], (some 40), none⟩, 0, [41]),
                    (⟨(.call 127), [.t 37, .t 40], (some 41), none⟩, 1, [41]),
                    (⟨.mv, [.t 41], (some 11), none⟩, 0, [])])
                  (.seq (.seq (.ops [⟨.mv, [.t 11], (some 42), none⟩,
                    ⟨(.bin .lss), [.t 42, .c (.pv (.i .i64 0))], (some 43), none⟩])
                  (.ite (.t 43) (.seq (.ops [⟨.mv, [.c (.pv (.i .i64 (-1)))], (some 4), none⟩])
                    .ret)
                    .skip))
                  (.ops [⟨.mv, [.t 9], (some 44), none⟩,
                    ⟨.mv, [.t 11], (some 45), none⟩,
                    ⟨(.bin .add), [.t 45, .c (.pv (.i .i64 1))], (some 46), none⟩,
                    ⟨(.bin .add), [.t 44, .t 46], (some 47), none⟩,
                    ⟨.mv, [.t 47], (some 9), none⟩])))
                  .skip))
                (.seq (.seq (.ops [⟨.mv, [.c (.pv (.i .i64 1))], (some 12), none⟩])
                (.block 3 (.loop (.seq (.seq (.ops [⟨.mv, [.t 12], (some 48), none⟩,
                      ⟨.mv, [.t 7], (some 49), none⟩,
                      ⟨.lenS, [.t 49], (some 50), none⟩,
                      ⟨(.bin .lss), [.t 48, .t 50], (some 51), none⟩])
                    (.ite (.t 51) .skip
                      (.exit 3)))
                    (.seq (.block 4 (.seq (.any [] [(⟨.mv, [.t 0], (some 54), none⟩, 0, []),
                        (⟨.mv, [.t 9], (some 55), none⟩, 0, []),
                        (⟨.mv, [.t 12], (some 56), none⟩, 0, []),
                        (⟨(.bin .sub), [.t 55, .t 56], (some 57), none⟩, 0, []),
                        (⟨.ixS, [.t 54, .t 57], (some 58), none⟩, 0, []),
                        (⟨.mv, [.t 7], (some 59), none⟩, 0, []),
                        (⟨.mv, [.t 8], (some 60), none⟩, 0, []),
                        (⟨.mv, [.t 12], (some 61), none⟩, 0, []),
                        (⟨(.bin .sub), [.t 60, .t 61], (some 62), none⟩, 0, []),
                        (⟨.ixS, [.t 59, .t 62], (some 63), none⟩, 0, []),
                        (⟨(.bin .neq), [.t 58, .t 63], (some 64), none⟩, 0, [])])
                      (.ite (.t 64) .bad
                        .skip)))
                    (.ops [⟨.mv, [.t 12], (some 52), none⟩,
                      ⟨(.bin .add), [.t 52, .c (.pv (.i .i64 1))], (some 53), none⟩,
                      ⟨.mv, [.t 53], (some 12), none⟩]))))))
                (.seq (.seq (.ops [⟨.mv, [.t 9], (some 65), none⟩,
                  ⟨.mv, [.t 8], (some 66), none⟩,
                  ⟨(.bin .sub), [.t 65, .t 66], (some 67), none⟩,
                  ⟨.mv, [.t 67], (some 4), none⟩])
                .ret)
                (.seq .skip
                (.seq (.ops [⟨.mv, [.t 10], (some 68), none⟩,
                  ⟨(.bin .add), [.t 68, .c (.pv (.i .i64 1))], (some 69), none⟩,
                  ⟨.mv, [.t 69], (some 10), none⟩])
                (.seq (.ops [⟨.mv, [.t 9], (some 70), none⟩,
                  ⟨(.bin .add), [.t 70, .c (.pv (.i .i64 1))], (some 71), none⟩,
                  ⟨.mv, [.t 71], (some 9), none⟩])
                (.seq (.ops [⟨.mv, [.c (.pv (.b true))], (some 72), none⟩,
                  ⟨.mv, [.t 10], (some 73), (some (72, true))⟩,
                  ⟨.mv, [.t 9], (some 74), (some (72, true))⟩,
                  ⟨(.call 129), [.t 74], (some 75), (some (72, true))⟩,
                  ⟨(.bin .gtr), [.t 73, .t 75], (some 76), (some (72, true))⟩,
                  ⟨.pick, [.t 72, .t 76, .c (.pv (.b false))], (some 77), none⟩,
                  ⟨.mv, [.t 77], (some 78), none⟩,
                  ⟨.mv, [.t 9], (some 79), (some (78, true))⟩,
                  ⟨.mv, [.t 0], (some 80), (some (78, true))⟩,
                  ⟨.lenS, [.t 80], (some 81), (some (78, true))⟩,
                  ⟨(.bin .lss), [.t 79, .t 81], (some 82), (some (78, true))⟩,
                  ⟨.pick, [.t 78, .t 82, .c (.pv (.b false))], (some 83), none⟩,
                  ⟨.mv, [.t 83], (some 84), none⟩,
                  ⟨.mv, [.c (.pv (.b false))], (some 85), (some (84, false))⟩,
                  ⟨.mv, [.t 10], (some 86), (some (85, true))⟩,
                  ⟨.mv, [.t 9], (some 87), (some (85, true))⟩,
                  ⟨(.bin .shr), [.t 87, .c (.pv (.i .u64 4))], (some 88), (some (85, true))⟩,
                  ⟨(.bin .add), [.c (.pv (.i .i64 4)), .t 88], (some 89), (some (85, true))⟩,
                  ⟨(.bin .geq), [.t 86, .t 89], (some 90), (some (85, true))⟩,
                  ⟨.pick, [.t 85, .t 90, .c (.pv (.b false))], (some 91), (some (84, false))⟩,
                  ⟨.mv, [.t 91], (some 92), (some (84, false))⟩,
                  ⟨.mv, [.t 9], (some 93), (some (92, true))⟩,
                  ⟨.mv, [.t 0], (some 94), (some (92, true))⟩,
                  ⟨.lenS, [.t 94], (some 95), (some (92, true))⟩,
                  ⟨(.bin .lss), [.t 93, .t 95], (some 96), (some (92, true))⟩,
                  ⟨.pick, [.t 92, .t 96, .c (.pv (.b false))], (some 97), (some (84, false))⟩,
                  ⟨.pick, [.t 84, .c (.pv (.b true)), .t 97], (some 98), none⟩])
                (.ite (.t 98) .bad
                  .skip))))))))))))
          (.seq (.seq (.ops [⟨.mv, [.c (.pv (.i .i64 (-1)))], (some 4), none⟩])
          .ret)
          (.seq .skip
          (.seq (.ite (.c (.pv (.b true))) (.seq (.ops [⟨.mv, [.t 0], (some 99), none⟩,
              ⟨.mv, [.t 9], (some 100), none⟩,
              ⟨.mv, [.t 8], (some 101), none⟩,
              ⟨(.bin .sub), [.t 100, .t 101], (some 102), none⟩,
              ⟨(.sls true false), [.t 99, .t 102], (some 103), none⟩,
              ⟨.mv, [.t 1], (some 104), none⟩,
              ⟨.r2s, [.t 104], (some 105), none⟩,
              ⟨(.call 130), [.t 103, .t 105], (some 106), none⟩,
              ⟨.mv, [.t 106], (some 13), none⟩])
            (.seq (.ops [⟨.mv, [.t 13], (some 107), none⟩,
              ⟨(.bin .geq), [.t 107, .c (.pv (.i .i64 0))], (some 108), none⟩])
            (.ite (.t 108) (.seq (.ops [⟨.mv, [.t 9], (some 109), none⟩,
                ⟨.mv, [.t 13], (some 110), none⟩,
                ⟨(.bin .add), [.t 109, .t 110], (some 111), none⟩,
                ⟨.mv, [.t 8], (some 112), none⟩,
                ⟨(.bin .sub), [.t 111, .t 112], (some 113), none⟩,
                ⟨.mv, [.t 113], (some 4), none⟩])
              .ret)
              .skip)))
            (.seq (.ops [⟨.mv, [.t 7], (some 114), none⟩,
              ⟨.mv, [.t 8], (some 115), none⟩,
              ⟨.ixS, [.t 114, .t 115], (some 116), none⟩,
              ⟨.mv, [.t 116], (some 14), none⟩])
            (.seq (.ops [⟨.mv, [.t 7], (some 117), none⟩,
              ⟨.mv, [.t 8], (some 118), none⟩,
              ⟨(.bin .sub), [.t 118, .c (.pv (.i .i64 1))], (some 119), none⟩,
              ⟨.ixS, [.t 117, .t 119], (some 120), none⟩,
              ⟨.mv, [.t 120], (some 15), none⟩])
            (.seq .skip
            (.block 5 (.loop (.seq (.seq (.ops [⟨.mv, [.t 9], (some 121), none⟩,
                  ⟨.mv, [.t 0], (some 122), none⟩,
                  ⟨.lenS, [.t 122], (some 123), none⟩,
                  ⟨(.bin .lss), [.t 121, .t 123], (some 124), none⟩])
                (.ite (.t 124) .skip
                  (.exit 5)))
                (.seq (.block 6 (.seq (.ops [⟨.mv, [.t 0], (some 127), none⟩,
                    ⟨.mv, [.t 9], (some 128), none⟩,
                    ⟨.ixS, [.t 127, .t 128], (some 129), none⟩,
                    ⟨.mv, [.t 14], (some 130), none⟩,
                    ⟨(.bin .eql), [.t 129, .t 130], (some 131), none⟩,
                    ⟨.mv, [.t 131], (some 132), none⟩,
                    ⟨.mv, [.t 0], (some 133), (some (132, true))⟩,
                    ⟨.mv, [.t 9], (some 134), (some (132, true))⟩,
                    ⟨(.bin .sub), [.t 134, .c (.pv (.i .i64 1))], (some 135), (some (132, true))⟩,
                    ⟨.ixS, [.t 133, .t 135], (some 136), (some (132, true))⟩,
                    ⟨.mv, [.t 15], (some 137), (some (132, true))⟩,
                    ⟨(.bin .eql), [.t 136, .t 137], (some 138), (some (132, true))⟩,
                    ⟨.pick, [.t 132, .t 138, .c (.pv (.b false))], (some 139), none⟩])
                  (.ite (.t 139) (.seq (.seq (.ops [⟨.mv, [.c (.pv (.i .i64 2))], (some 16), none⟩])
                    (.block 7 (.loop (.seq (.seq (.ops [⟨.mv, [.t 16], (some 140), none⟩,
                          ⟨.mv, [.t 7], (some 141), none⟩,
                          ⟨.lenS, [.t 141], (some 142), none⟩,
                          ⟨(.bin .lss), [.t 140, .t 142], (some 143), none⟩])
                        (.ite (.t 143) .skip
                          (.exit 7)))
                        (.seq (.block 8 (.seq (.any [] [(⟨.mv, [.t 0], (some 146), none⟩, 0, []),
                            (⟨.mv, [.t 9], (some 147), none⟩, 0, []),
                            (⟨.mv, [.t 16], (some 148), none⟩, 0, []),
                            (⟨(.bin .sub), [.t 147, .t 148], (some 149), none⟩, 0, []),
                            (⟨.ixS, [.t 146, .t 149], (some 150), none⟩, 0, []),
                            (⟨.mv, [.t 7], (some 151), none⟩, 0, []),
                            (⟨.mv, [.t 8], (some 152), none⟩, 0, []),
                            (⟨.mv, [.t 16], (some 153), none⟩, 0, []),
                            (⟨(.bin .sub), [.t 152, .t 153], (some 154), none⟩, 0, []),
                            (⟨.ixS, [.t 151, .t 154], (some 155), none⟩, 0, []),
                            (⟨(.bin .neq), [.t 150, .t 155], (some 156), none⟩, 0, [])])
                          (.ite (.t 156) (.exit 6)
                            .skip)))
                        (.ops [⟨.mv, [.t 16], (some 144), none⟩,
                          ⟨(.bin .add), [.t 144, .c (.pv (.i .i64 1))], (some 145), none⟩,
                          ⟨.mv, [.t 145], (some 16), none⟩]))))))
                    (.seq (.ops [⟨.mv, [.t 9], (some 157), none⟩,
                      ⟨.mv, [.t 8], (some 158), none⟩,
                      ⟨(.bin .sub), [.t 157, .t 158], (some 159), none⟩,
                      ⟨.mv, [.t 159], (some 4), none⟩])
                    .ret))
                    .skip)))
                (.ops [⟨.mv, [.t 9], (some 125), none⟩,
                  ⟨(.bin .add), [.t 125, .c (.pv (.i .i64 1))], (some 126), none⟩,
                  ⟨.mv, [.t 126], (some 9), none⟩])))))))))
          (.seq (.ops [⟨.mv, [.c (.pv (.i .i64 (-1)))], (some 4), none⟩])
          .ret)))))))))))))))))
theorem fn120 : fnOf Try.prog 120 = some (187, [.t 4], ir120) := by kernel_rfl
def ir121 : C :=
  (.seq (.ops [⟨.mv, [.c (.pv (.v .nilFunc))], (some 2), none⟩])
  (.seq (.ops [⟨(.bsl 1), [], (some 4), none⟩,
    ⟨.mv, [.t 0], (some 5), none⟩,
    ⟨(.app 1 1), [.t 4, .t 5], (some 6), none⟩,
    ⟨(.new (.pv (.sl true 0 []))), [], (some 3), none⟩,
    ⟨(.sto 1), [.t 3, .t 6], none, none⟩])
  (.seq (.ops [⟨(.mkf (.func 131)), [.t 3], (some 7), none⟩,
    ⟨.mv, [.t 7], (some 2), none⟩])
  .ret)))
theorem fn121 : fnOf Try.prog 121 = some (8, [.t 2], ir121) := by kernel_rfl
def ir122 : C :=
  (.seq (.ops [⟨.mv, [.c (.pv (.s []))], (some 2), none⟩,
    ⟨.mv, [.c (.pv (.b false))], (some 3), none⟩])
  (.seq (.ops [⟨.mv, [.t 0], (some 5), none⟩,
    ⟨.lenS, [.t 5], (some 6), none⟩,
    ⟨.mv, [.t 6], (some 4), none⟩])
  (.seq (.seq (.ops [⟨.mv, [.t 4], (some 7), none⟩,
    ⟨(.bin .gtr), [.t 7, .c (.pv (.i .i64 65535))], (some 8), none⟩])
  (.ite (.t 8) (.seq (.ops [⟨.mv, [.c (.pv (.s []))], (some 2), none⟩,
      ⟨.mv, [.c (.pv (.b false))], (some 3), none⟩])
    .ret)
    .skip))
  (.seq (.seq (.ops [⟨.mv, [.t 4], (some 9), none⟩,
    ⟨(.bin .lss), [.t 9, .c (.pv (.i .i64 255))], (some 10), none⟩])
  (.ite (.t 10) (.seq (.ops [⟨.mv, [.t 4], (some 11), none⟩,
      ⟨(.cvI .u8), [.t 11], (some 12), none⟩,
      ⟨(.bsl 1), [.t 12], (some 13), none⟩,
      ⟨.b2s, [.t 13], (some 14), none⟩,
      ⟨.mv, [.t 0], (some 15), none⟩,
      ⟨(.bin .add), [.t 14, .t 15], (some 16), none⟩,
      ⟨.mv, [.t 16], (some 2), none⟩,
      ⟨.mv, [.c (.pv (.b true))], (some 3), none⟩])
    .ret)
    .skip))
  (.seq (.ops [⟨.mv, [.t 4], (some 17), none⟩,
    ⟨(.bin .quo), [.t 17, .c (.pv (.i .i64 256))], (some 18), none⟩,
    ⟨(.cvI .u8), [.t 18], (some 19), none⟩,
    ⟨.mv, [.t 4], (some 20), none⟩,
    ⟨(.bin .rem), [.t 20, .c (.pv (.i .i64 256))], (some 21), none⟩,
    ⟨(.cvI .u8), [.t 21], (some 22), none⟩,
    ⟨(.bsl 1), [.c (.pv (.i .u8 255)), .t 19, .t 22], (some 23), none⟩,
    ⟨.b2s, [.t 23], (some 24), none⟩,
    ⟨.mv, [.t 0], (some 25), none⟩,
    ⟨(.bin .add), [.t 24, .t 25], (some 26), none⟩,
    ⟨.mv, [.t 26], (some 2), none⟩,
    ⟨.mv, [.c (.pv (.b true))], (some 3), none⟩])
  .ret)))))
theorem fn122 : fnOf Try.prog 122 = some (27, [.t 2, .t 3], ir122) := by kernel_rfl
def ir123 : C :=
  (.seq (.ops [⟨.mv, [.c (.pv (.i .u8 0))], (some 2), none⟩])
  (.seq (.ops [⟨.mv, [.c (.pv (.i .u8 1))], (some 3), none⟩])
  (.seq (.seq (.ops [⟨.mv, [.c (.pv (.i .i64 0))], (some 4), none⟩])
  (.block 0 (.loop (.seq (.seq (.ops [⟨.mv, [.t 4], (some 5), none⟩,
        ⟨.mv, [.t 0], (some 6), none⟩,
        ⟨(.bin .lss), [.t 5, .t 6], (some 7), none⟩])
      (.ite (.t 7) .skip
        (.exit 0)))
      (.seq (.block 1 (.ops [⟨.mv, [.t 3], (some 10), none⟩,
          ⟨(.bin .mul), [.t 10, .c (.pv (.i .u8 2))], (some 11), none⟩,
          ⟨.mv, [.t 11], (some 3), none⟩]))
      (.ops [⟨.mv, [.t 4], (some 8), none⟩,
        ⟨(.bin .add), [.t 8, .c (.pv (.i .i64 1))], (some 9), none⟩,
        ⟨.mv, [.t 9], (some 4), none⟩]))))))
  (.seq (.ops [⟨.mv, [.t 3], (some 12), none⟩,
    ⟨.mv, [.t 12], (some 2), none⟩])
  .ret))))
theorem fn123 : fnOf Try.prog 123 = some (13, [.t 2], ir123) := by kernel_rfl
def ir127 : C :=
  (.seq (.ops [⟨.mv, [.c (.pv (.i .i64 0))], (some 4), none⟩])
  (.seq (.ops [⟨.mv, [.t 0], (some 5), none⟩,
    ⟨.mv, [.t 1], (some 6), none⟩,
    ⟨(.call 137), [.t 5, .t 6], (some 7), none⟩,
    ⟨.mv, [.t 7], (some 4), none⟩])
  .ret))
theorem fn127 : fnOf Try.prog 127 = some (8, [.t 4], ir127) := by kernel_rfl
def ir128 : C :=
  (.seq (.ops [⟨.mv, [.c (.pv (.b false))], (some 2), none⟩])
  (.seq (.block 0 (.seq (.ops [⟨.mv, [.t 0], (some 4), none⟩,
      ⟨(.bin .leq), [.c (.pv (.i .i32 0)), .t 4], (some 5), none⟩,
      ⟨.mv, [.t 5], (some 6), none⟩,
      ⟨.mv, [.t 0], (some 7), (some (6, true))⟩,
      ⟨(.bin .lss), [.t 7, .c (.pv (.i .i32 55296))], (some 8), (some (6, true))⟩,
      ⟨.pick, [.t 6, .t 8, .c (.pv (.b false))], (some 9), none⟩,
      ⟨.mv, [.t 9], (some 3), none⟩])
    (.ite (.t 3) (.seq (.ops [⟨.mv, [.c (.pv (.b true))], (some 2), none⟩])
      .ret)
      (.seq (.ops [⟨.mv, [.t 0], (some 11), none⟩,
        ⟨(.bin .lss), [.c (.pv (.i .i32 57343)), .t 11], (some 12), none⟩,
        ⟨.mv, [.t 12], (some 13), none⟩,
        ⟨.mv, [.t 0], (some 14), (some (13, true))⟩,
        ⟨(.bin .leq), [.t 14, .c (.pv (.i .i32 1114111))], (some 15), (some (13, true))⟩,
        ⟨.pick, [.t 13, .t 15, .c (.pv (.b false))], (some 16), none⟩,
        ⟨.mv, [.t 16], (some 10), none⟩])
      (.ite (.t 10) (.seq (.ops [⟨.mv, [.c (.pv (.b true))], (some 2), none⟩])
        .ret)
        .skip)))))
  (.seq (.ops [⟨.mv, [.c (.pv (.b false))], (some 2), none⟩])
  .ret)))
theorem fn128 : fnOf Try.prog 128 = some (17, [.t 2], ir128) := by kernel_rfl
def ir131 : C :=
  (.seq (.ops [⟨(.ld 1 false), [.t 1], (some 7), none⟩,
    ⟨.mv, [.t 7], (some 3), none⟩])
  (.block 0 (.loop (.seq (.seq (.ops [⟨.mv, [.t 3], (some 8), none⟩,
        ⟨.len, [.t 8], (some 9), none⟩,
        ⟨(.bin .gtr), [.t 9, .c (.pv (.i .i64 0))], (some 10), none⟩])
      (.ite (.t 10) .skip
        (.exit 0)))
      (.block 1 (.seq (.ops [⟨.mv, [.t 3], (some 12), none⟩,
          ⟨(.call 132), [.t 12], (some 13), none⟩,
          ⟨.mv, [.t 13], (some 11), none⟩,
          ⟨(.ext 0), [.t 11], (some 14), none⟩,
          ⟨(.ext 1), [.t 11], (some 15), none⟩,
          ⟨(.ext 2), [.t 11], (some 16), none⟩,
          ⟨.mv, [.t 14], (some 4), none⟩,
          ⟨.mv, [.t 15], (some 5), none⟩,
          ⟨.mv, [.t 16], (some 6), none⟩])
        (.seq (.seq (.ops [⟨.mv, [.t 6], (some 17), none⟩,
          ⟨(.bin .eql), [.t 17, .c (.pv (.i .i64 0))], (some 18), none⟩,
          ⟨.mv, [.t 18], (some 19), none⟩,
          ⟨.mv, [.t 4], (some 20), (some (19, true))⟩,
          ⟨.mv, [.t 3], (some 21), (some (19, true))⟩,
          ⟨.len, [.t 21], (some 22), (some (19, true))⟩,
          ⟨.mv, [.t 5], (some 23), (some (19, true))⟩,
          ⟨(.bin .sub), [.t 22, .t 23], (some 24), (some (19, true))⟩,
          ⟨(.bin .gtr), [.t 20, .t 24], (some 25), (some (19, true))⟩,
          ⟨.pick, [.t 19, .t 25, .c (.pv (.b false))], (some 26), none⟩])
        (.ite (.t 26) (.ops [⟨.mv, [.c (.pv (.i .i64 8))], (some 6), none⟩])
          .skip))
        (.seq (.seq (.ops [⟨.mv, [.t 6], (some 27), none⟩,
          ⟨(.bin .neq), [.t 27, .c (.pv (.i .i64 0))], (some 28), none⟩])
        (.ite (.t 28) (.seq (.ops [⟨.mv, [.t 0], (some 29), none⟩,
            ⟨.mv, [.t 6], (some 30), none⟩,
            ⟨.yv, [.t 29, .c (.pv (.sl true 0 [])), .t 30], (some 31), none⟩])
          .ret)
          .skip))
        (.seq (.seq (.ops [⟨.mv, [.t 0], (some 32), none⟩,
          ⟨(.bsl 1), [], (some 33), none⟩,
          ⟨.mv, [.t 3], (some 34), none⟩,
          ⟨.mv, [.t 5], (some 35), none⟩,
          ⟨.mv, [.t 5], (some 36), none⟩,
          ⟨.mv, [.t 4], (some 37), none⟩,
          ⟨(.bin .add), [.t 36, .t 37], (some 38), none⟩,
          ⟨(.slc 1 true true false), [.t 34, .t 35, .t 38], (some 39), none⟩,
          ⟨(.app 1 1), [.t 33, .t 39], (some 40), none⟩,
          ⟨.yv, [.t 32, .t 40, .c (.pv (.i .i64 0))], (some 41), none⟩,
          ⟨(.un .not), [.t 41], (some 42), none⟩])
        (.ite (.t 42) .ret
          .skip))
        (.ops [⟨.mv, [.t 3], (some 43), none⟩,
          ⟨.mv, [.t 5], (some 44), none⟩,
          ⟨.mv, [.t 4], (some 45), none⟩,
          ⟨(.bin .add), [.t 44, .t 45], (some 46), none⟩,
          ⟨(.slc 1 true false false), [.t 43, .t 46], (some 47), none⟩,
          ⟨.mv, [.t 47], (some 3), none⟩]))))))))))
theorem fn131 : fnOf Try.prog 131 = some (48, [], ir131) := by kernel_rfl
def ir132 : C :=
  (.seq (.ops [⟨.mv, [.c (.pv (.i .i64 0))], (some 2), none⟩,
    ⟨.mv, [.c (.pv (.i .i64 0))], (some 3), none⟩,
    ⟨.mv, [.c (.pv (.i .i64 0))], (some 4), none⟩])
  (.seq (.seq (.ops [⟨.mv, [.t 0], (some 6), none⟩,
    ⟨(.iaS 1), [.t 6, .c (.pv (.i .i64 0))], (some 7), none⟩,
    ⟨(.ld 1 false), [.t 7], (some 8), none⟩,
    ⟨(.bin .lss), [.t 8, .c (.pv (.i .u8 255))], (some 9), none⟩])
  (.ite (.t 9) (.seq (.ops [⟨.mv, [.t 0], (some 10), none⟩,
      ⟨(.iaS 1), [.t 10, .c (.pv (.i .i64 0))], (some 11), none⟩,
      ⟨(.ld 1 false), [.t 11], (some 12), none⟩,
      ⟨(.cvI .i64), [.t 12], (some 13), none⟩,
      ⟨.mv, [.t 13], (some 2), none⟩,
      ⟨.mv, [.c (.pv (.i .i64 1))], (some 3), none⟩,
      ⟨.mv, [.c (.pv (.i .i64 0))], (some 4), none⟩])
    .ret)
    .skip))
  (.seq (.seq (.ops [⟨.mv, [.t 0], (some 14), none⟩,
    ⟨.len, [.t 14], (some 15), none⟩,
    ⟨(.bin .lss), [.t 15, .c (.pv (.i .i64 3))], (some 16), none⟩])
  (.ite (.t 16) (.seq (.ops [⟨.mv, [.c (.pv (.i .i64 0))], (some 2), none⟩,
      ⟨.mv, [.c (.pv (.i .i64 0))], (some 3), none⟩,
      ⟨.mv, [.c (.pv (.i .i64 8))], (some 4), none⟩])
    .ret)
    .skip))
  (.seq (.any [] [(⟨.mv, [.t 0], (some 17), none⟩, 0, []),
    (⟨(.iaS 1), [.t 17, .c (.pv (.i .i64 1))], (some 18), none⟩, 1, []),
    (⟨(.ld 1 false), [.t 18], (some 19), none⟩, 1, []),
    (⟨(.cvI .i64), [.t 19], (some 20), none⟩, 0, []),
    (⟨(.bin .shl), [.t 20, .c (.pv (.i .u64 8))], (some 21), none⟩, 0, []),
    (⟨.mv, [.t 0], (some 22), none⟩, 0, []),
    (⟨(.iaS 1), [.t 22, .c (.pv (.i .i64 2))], (some 23), none⟩, 1, []),
    (⟨(.ld 1 false), [.t 23], (some 24), none⟩, 1, []),
    (⟨(.cvI .i64), [.t 24], (some 25), none⟩, 0, []),
    (⟨(.bin .or), [.t 21, .t 25], (some 26), none⟩, 0, []),
    (⟨.mv, [.t 26], (some 5), none⟩, 0, [])])
  (.seq (.seq (.ops [⟨.mv, [.t 5], (some 27), none⟩,
    ⟨(.bin .lss), [.t 27, .c (.pv (.i .i64 255))], (some 28), none⟩])
  (.ite (.t 28) (.seq (.ops [⟨.mv, [.c (.pv (.i .i64 0))], (some 2), none⟩,
      ⟨.mv, [.c (.pv (.i .i64 0))], (some 3), none⟩,
      ⟨.mv, [.c (.pv (.i .i64 7))], (some 4), none⟩])
    .ret)
    .skip))
  (.seq (.ops [⟨.mv, [.t 5], (some 29), none⟩,
    ⟨.mv, [.t 29], (some 2), none⟩,
    ⟨.mv, [.c (.pv (.i .i64 3))], (some 3), none⟩,
    ⟨.mv, [.c (.pv (.i .i64 0))], (some 4), none⟩])
  .ret))))))
theorem fn132 : fnOf Try.prog 132 = some (30, [.t 2, .t 3, .t 4], ir132) := by kernel_rfl
def ir137 : C :=
  (.seq (.ops [⟨.mv, [.c (.pv (.i .i64 0))], (some 4), none⟩])
  (.seq (.ops [⟨.mv, [.t 0], (some 5), none⟩,
    ⟨.mv, [.t 1], (some 6), none⟩,
    ⟨(.call 139), [.t 5, .t 6], (some 7), none⟩,
    ⟨.mv, [.t 7], (some 4), none⟩])
  .ret))
theorem fn137 : fnOf Try.prog 137 = some (8, [.t 4], ir137) := by kernel_rfl
end Go.Proofs.Ytmeecblciegkkaa.Fw
