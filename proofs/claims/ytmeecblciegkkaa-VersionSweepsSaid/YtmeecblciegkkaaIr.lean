/- The functions of the program in the small language, each checked against the program. -/
import Derived.Test.YtmeecblciegkkaaFwD
import Derived.Test.YtmeecblciegkkaaProg
import Derived.ProofKit
set_option linter.unusedVariables false
set_option linter.unusedSimpArgs false
set_option linter.unusedSectionVars false
set_option maxRecDepth 100000
namespace Go.Proofs.Ytmeecblciegkkaa.Fw
open Go.Proofs
theorem mixed : Try.prog.follows .mixedOrders = true := by kernel_rfl
def ir8 : C :=
  (.seq (.ops [⟨.box, [.t 1], (some 3), none⟩,
    ⟨.mv, [.c (.pv (.b false))], (some 4), none⟩])
  (.seq (.seq (.ops [⟨(.call 18), [], (some 6), none⟩,
    ⟨(.un .not), [.t 6], (some 7), none⟩,
    ⟨.mv, [.t 7], (some 8), none⟩,
    ⟨.mv, [.t 0], (some 9), (some (8, false))⟩,
    ⟨(.call 23), [.t 9], (some 10), (some (8, false))⟩,
    ⟨(.un .not), [.t 10], (some 11), (some (8, false))⟩,
    ⟨.pick, [.t 8, .c (.pv (.b true)), .t 11], (some 12), none⟩])
  (.ite (.t 12) (.seq (.ops [⟨(.call 18), [], (some 13), none⟩,
      ⟨.mv, [.t 13], (some 4), none⟩])
    .ret)
    .skip))
  (.seq (.ops [⟨.mv, [.t 0], (some 14), none⟩,
    ⟨(.ld 8 true), [.t 3], (some 15), none⟩,
    ⟨(.call 34), [.t 14, .t 15], (some 16), none⟩,
    ⟨.mv, [.t 16], (some 5), none⟩])
  (.seq (.any [20, 21, 25, 28, 33, 35, 36] [(⟨.mv, [.t 5], (some 17), none⟩, 0, [20, 21, 25, 28, 33, 35, 36]),
    (⟨.mv, [.t 0], (some 18), none⟩, 0, [20, 21, 25, 28, 33, 35, 36]),
    (⟨(.ld 8 true), [.t 3], (some 19), none⟩, 1, [20, 21, 25, 28, 33, 35, 36]),
    (⟨(.call 35), [.t 18, .t 19], (some 20), none⟩, 1, [20, 21, 25, 28, 33, 35, 36]),
    (⟨(.call 26), [.t 17, .t 20], (some 21), none⟩, 1, [21, 25, 28, 33, 35, 36]),
    (⟨.mv, [.t 21], (some 22), none⟩, 0, [20, 25, 28, 33, 35, 36]),
    (⟨.mv, [.t 0], (some 23), (some (22, true))⟩, 0, [20, 21, 25, 28, 33, 35, 36]),
    (⟨(.ld 8 true), [.t 3], (some 24), (some (22, true))⟩, 1, [20, 21, 25, 28, 33, 35, 36]),
    (⟨(.call 36), [.t 23, .t 24], (some 25), (some (22, true))⟩, 1, [20, 21, 25, 28, 33, 35, 36]),
    (⟨.mv, [.t 0], (some 26), (some (22, true))⟩, 0, [20, 21, 25, 28, 33, 35, 36]),
    (⟨(.ld 8 true), [.t 3], (some 27), (some (22, true))⟩, 1, [20, 21, 25, 28, 33, 35, 36]),
    (⟨(.call 37), [.t 26, .t 27], (some 28), (some (22, true))⟩, 1, [20, 21, 28, 33, 35, 36]),
    (⟨(.binB .eql), [.t 25, .t 28], (some 29), (some (22, true))⟩, 0, [20, 21, 33, 35, 36]),
    (⟨.pick, [.t 22, .t 29, .c (.pv (.b false))], (some 30), none⟩, 0, [20, 21, 25, 28, 33, 35, 36]),
    (⟨.mv, [.t 30], (some 31), none⟩, 0, [20, 21, 25, 33, 35, 36]),
    (⟨.mv, [.t 5], (some 32), (some (31, true))⟩, 0, [20, 21, 25, 28, 33, 35, 36]),
    (⟨(.call 24), [.t 32], (some 33), (some (31, true))⟩, 1, [20, 21, 25, 28, 33, 35, 36]),
    (⟨.mv, [.t 0], (some 34), (some (31, true))⟩, 0, [20, 21, 25, 28, 33, 35, 36]),
    (⟨(.call 24), [.t 34], (some 35), (some (31, true))⟩, 1, [20, 21, 25, 28, 35, 36]),
    (⟨(.call 26), [.t 33, .t 35], (some 36), (some (31, true))⟩, 1, [20, 21, 25, 28, 36]),
    (⟨.pick, [.t 31, .t 36, .c (.pv (.b false))], (some 37), none⟩, 0, [20, 21, 25, 28, 33, 35]),
    (⟨.mv, [.t 37], (some 4), none⟩, 0, [])])
  .ret))))
theorem fn8 : fnOf Try.prog 8 = some (38, [.t 4], ir8) := by kernel_rfl
def ir17 : C :=
  (.seq (.ops [⟨.box, [.t 0], (some 2), none⟩,
    ⟨.box, [.t 1], (some 3), none⟩,
    ⟨.mv, [.c (.pv (.i .i64 0))], (some 4), none⟩])
  (.seq (.ops [⟨.mv, [.c (.pv (.b false))], (some 5), none⟩,
    ⟨.mv, [.c (.pv (.b false))], (some 6), none⟩])
  (.seq (.seq (.ops [⟨.mv, [.c (.pv (.i .i64 0))], (some 7), none⟩])
  (.block 0 (.loop (.seq (.seq (.ops [⟨.mv, [.t 7], (some 8), none⟩,
        ⟨(.bin .lss), [.t 8, .c (.pv (.i .i64 8))], (some 9), none⟩])
      (.ite (.t 9) .skip
        (.exit 0)))
      (.seq (.block 1 (.seq (.any [] [(⟨.mv, [.t 5], (some 12), none⟩, 0, []),
          (⟨.mv, [.t 12], (some 13), none⟩, 0, []),
          (⟨.mv, [.t 7], (some 14), (some (13, false))⟩, 0, []),
          (⟨(.iaA 8 1), [.t 2, .t 14], (some 15), (some (13, false))⟩, 0, []),
          (⟨(.ld 1 false), [.t 15], (some 16), (some (13, false))⟩, 1, []),
          (⟨.mv, [.t 7], (some 17), (some (13, false))⟩, 0, []),
          (⟨(.iaA 8 1), [.t 3, .t 17], (some 18), (some (13, false))⟩, 0, []),
          (⟨(.ld 1 false), [.t 18], (some 19), (some (13, false))⟩, 1, []),
          (⟨(.bin .lss), [.t 16, .t 19], (some 20), (some (13, false))⟩, 0, []),
          (⟨.pick, [.t 13, .c (.pv (.b true)), .t 20], (some 21), none⟩, 0, []),
          (⟨.mv, [.t 21], (some 5), none⟩, 0, [])])
        (.any [] [(⟨.mv, [.t 6], (some 22), none⟩, 0, []),
          (⟨.mv, [.t 22], (some 23), none⟩, 0, []),
          (⟨.mv, [.t 7], (some 24), (some (23, false))⟩, 0, []),
          (⟨(.iaA 8 1), [.t 2, .t 24], (some 25), (some (23, false))⟩, 0, []),
          (⟨(.ld 1 false), [.t 25], (some 26), (some (23, false))⟩, 1, []),
          (⟨.mv, [.t 7], (some 27), (some (23, false))⟩, 0, []),
          (⟨(.iaA 8 1), [.t 3, .t 27], (some 28), (some (23, false))⟩, 0, []),
          (⟨(.ld 1 false), [.t 28], (some 29), (some (23, false))⟩, 1, []),
          (⟨(.bin .gtr), [.t 26, .t 29], (some 30), (some (23, false))⟩, 0, []),
          (⟨.pick, [.t 23, .c (.pv (.b true)), .t 30], (some 31), none⟩, 0, []),
          (⟨.mv, [.t 31], (some 6), none⟩, 0, [])])))
      (.ops [⟨.mv, [.t 7], (some 10), none⟩,
        ⟨(.bin .add), [.t 10, .c (.pv (.i .i64 1))], (some 11), none⟩,
        ⟨.mv, [.t 11], (some 7), none⟩]))))))
  (.seq (.block 2 (.seq (.ops [⟨.mv, [.t 5], (some 33), none⟩,
      ⟨.mv, [.t 33], (some 34), none⟩,
      ⟨.mv, [.t 6], (some 35), (some (34, true))⟩,
      ⟨.pick, [.t 34, .t 35, .c (.pv (.b false))], (some 36), none⟩,
      ⟨.mv, [.t 36], (some 32), none⟩])
    (.ite (.t 32) (.seq (.ops [⟨.mv, [.c (.pv (.i .i64 2))], (some 4), none⟩])
      .ret)
      (.seq (.ops [⟨.mv, [.t 5], (some 38), none⟩,
        ⟨.mv, [.t 38], (some 37), none⟩])
      (.ite (.t 37) (.seq (.ops [⟨.mv, [.c (.pv (.i .i64 (-1)))], (some 4), none⟩])
        .ret)
        (.seq (.ops [⟨.mv, [.t 6], (some 40), none⟩,
          ⟨.mv, [.t 40], (some 39), none⟩])
        (.ite (.t 39) (.seq (.ops [⟨.mv, [.c (.pv (.i .i64 1))], (some 4), none⟩])
          .ret)
          .skip)))))))
  (.seq (.ops [⟨.mv, [.c (.pv (.i .i64 0))], (some 4), none⟩])
  .ret)))))
theorem fn17 : fnOf Try.prog 17 = some (41, [.t 4], ir17) := by kernel_rfl
def ir18 : C :=
  (.seq (.ops [⟨.mv, [.c (.pv (.b false))], (some 0), none⟩])
  (.seq (.ops [⟨(.call 19), [.c (.pv (.s [97, 98, 99])), .c (.pv (.i .i64 5)), .c (.pv (.s [120]))], (some 6), none⟩,
    ⟨.mv, [.t 6], (some 5), none⟩,
    ⟨(.ext 0), [.t 5], (some 7), none⟩,
    ⟨(.ext 1), [.t 5], (some 8), none⟩,
    ⟨.mv, [.t 7], (some 1), none⟩,
    ⟨.mv, [.t 8], (some 2), none⟩])
  (.seq (.ops [⟨(.call 27), [.c (.pv (.i .i64 1)), .c (.pv (.i .u32 2))], (some 10), none⟩,
    ⟨(.bld [2, 1, 8]), [.t 10, .c (.pv (.s [121])), .c (.vec 8 (List.replicate 8 (.i .u32 0)))], (some 11), none⟩,
    ⟨(.call 25), [.c (.pv (.sl true 0 [])), .c (.pv (.sl true 0 [])), .t 11], (some 12), none⟩,
    ⟨.mv, [.t 12], (some 9), none⟩,
    ⟨(.ext 0), [.t 9], (some 13), none⟩,
    ⟨(.ext 1), [.t 9], (some 14), none⟩,
    ⟨.mv, [.t 13], (some 3), none⟩,
    ⟨.mv, [.t 14], (some 4), none⟩])
  (.seq (.ops [⟨.mv, [.t 2], (some 15), none⟩,
    ⟨(.bin .eql), [.t 15, .c (.pv (.i .i64 0))], (some 16), none⟩,
    ⟨.mv, [.t 16], (some 17), none⟩,
    ⟨.mv, [.t 4], (some 18), (some (17, true))⟩,
    ⟨(.bin .eql), [.t 18, .c (.pv (.i .i64 0))], (some 19), (some (17, true))⟩,
    ⟨.pick, [.t 17, .t 19, .c (.pv (.b false))], (some 20), none⟩,
    ⟨.mv, [.t 20], (some 21), none⟩,
    ⟨.mv, [.t 1], (some 22), (some (21, true))⟩,
    ⟨(.bin .eql), [.t 22, .c (.pv (.s [97, 98, 99, 0, 0, 120]))], (some 23), (some (21, true))⟩,
    ⟨.pick, [.t 21, .t 23, .c (.pv (.b false))], (some 24), none⟩,
    ⟨.mv, [.t 24], (some 25), none⟩,
    ⟨.mv, [.t 3], (some 26), (some (25, true))⟩,
    ⟨.len, [.t 26], (some 27), (some (25, true))⟩,
    ⟨(.bin .eql), [.t 27, .c (.pv (.i .i64 1))], (some 28), (some (25, true))⟩,
    ⟨.pick, [.t 25, .t 28, .c (.pv (.b false))], (some 29), none⟩,
    ⟨.mv, [.t 29], (some 30), none⟩,
    ⟨.mv, [.t 3], (some 31), (some (30, true))⟩,
    ⟨(.iaS 11), [.t 31, .c (.pv (.i .i64 0))], (some 32), (some (30, true))⟩,
    ⟨(.ld 11 true), [.t 32], (some 33), (some (30, true))⟩,
    ⟨(.call 32), [.t 33], (some 34), (some (30, true))⟩,
    ⟨.pick, [.t 30, .t 34, .c (.pv (.b false))], (some 35), none⟩,
    ⟨.mv, [.t 35], (some 0), none⟩])
  .ret))))
theorem fn18 : fnOf Try.prog 18 = some (36, [.t 0], ir18) := by kernel_rfl
def ir19 : C :=
  (.seq (.ops [⟨.mv, [.c (.pv (.s []))], (some 6), none⟩,
    ⟨.mv, [.c (.pv (.i .i64 0))], (some 7), none⟩])
  (.seq (.seq (.ops [⟨.mv, [.t 1], (some 9), none⟩,
    ⟨(.bin .lss), [.t 9, .c (.pv (.i .i64 0))], (some 10), none⟩,
    ⟨.mv, [.t 10], (some 11), none⟩,
    ⟨.mv, [.t 1], (some 12), (some (11, false))⟩,
    ⟨(.bin .gtr), [.t 12, .c (.pv (.i .i64 200))], (some 13), (some (11, false))⟩,
    ⟨.pick, [.t 11, .c (.pv (.b true)), .t 13], (some 14), none⟩,
    ⟨.mv, [.t 14], (some 15), none⟩,
    ⟨.mv, [.t 0], (some 16), (some (15, false))⟩,
    ⟨.lenS, [.t 16], (some 17), (some (15, false))⟩,
    ⟨(.bin .gtr), [.t 17, .c (.pv (.i .i64 200))], (some 18), (some (15, false))⟩,
    ⟨.pick, [.t 15, .c (.pv (.b true)), .t 18], (some 19), none⟩,
    ⟨.mv, [.t 19], (some 20), none⟩,
    ⟨.mv, [.t 2], (some 21), (some (20, false))⟩,
    ⟨.lenS, [.t 21], (some 22), (some (20, false))⟩,
    ⟨.mv, [.t 1], (some 23), (some (20, false))⟩,
    ⟨(.bin .sub), [.c (.pv (.i .i64 200)), .t 23], (some 24), (some (20, false))⟩,
    ⟨(.bin .gtr), [.t 22, .t 24], (some 25), (some (20, false))⟩,
    ⟨.pick, [.t 20, .c (.pv (.b true)), .t 25], (some 26), none⟩])
  (.ite (.t 26) (.seq (.ops [⟨.mv, [.c (.pv (.s []))], (some 6), none⟩,
      ⟨.mv, [.c (.pv (.i .i64 4))], (some 7), none⟩])
    .ret)
    .skip))
  (.seq (.ops [⟨.mv, [.t 0], (some 27), none⟩,
    ⟨.s2b, [.t 27], (some 28), none⟩,
    ⟨.mv, [.t 28], (some 8), none⟩])
  (.seq (.block 0 (.loop (.seq (.seq (.ops [⟨.mv, [.t 8], (some 29), none⟩,
        ⟨.len, [.t 29], (some 30), none⟩,
        ⟨.mv, [.t 1], (some 31), none⟩,
        ⟨.mv, [.t 2], (some 32), none⟩,
        ⟨.lenS, [.t 32], (some 33), none⟩,
        ⟨(.bin .add), [.t 31, .t 33], (some 34), none⟩,
        ⟨(.bin .lss), [.t 30, .t 34], (some 35), none⟩])
      (.ite (.t 35) .skip
        (.exit 0)))
      (.block 1 (.ops [⟨.mv, [.t 8], (some 36), none⟩,
          ⟨(.bsl 1), [.c (.pv (.i .u8 0))], (some 37), none⟩,
          ⟨(.app 1 1), [.t 36, .t 37], (some 38), none⟩,
          ⟨.mv, [.t 38], (some 8), none⟩])))))
  (.seq (.ops [⟨.mv, [.t 8], (some 39), none⟩,
    ⟨.mv, [.t 1], (some 40), none⟩,
    ⟨(.slv 1 true false), [.t 39, .t 40], (some 41), none⟩,
    ⟨.mv, [.t 2], (some 42), none⟩,
    ⟨(.cpy 1), [.t 41, .t 42], (some 43), none⟩])
  (.seq (.ops [⟨.mv, [.t 8], (some 44), none⟩,
    ⟨.b2s, [.t 44], (some 45), none⟩,
    ⟨.mv, [.t 45], (some 6), none⟩,
    ⟨.mv, [.c (.pv (.i .i64 0))], (some 7), none⟩])
  .ret))))))
theorem fn19 : fnOf Try.prog 19 = some (46, [.t 6, .t 7], ir19) := by kernel_rfl
def ir20 : C :=
  (.seq (.ops [⟨.mv, [.c (.pv (.s []))], (some 6), none⟩,
    ⟨.mv, [.c (.pv (.i .i64 0))], (some 7), none⟩])
  (.seq (.seq (.ops [⟨.mv, [.t 1], (some 8), none⟩,
    ⟨(.bin .lss), [.t 8, .c (.pv (.i .i64 0))], (some 9), none⟩,
    ⟨.mv, [.t 9], (some 10), none⟩,
    ⟨.mv, [.t 1], (some 11), (some (10, false))⟩,
    ⟨(.bin .gtr), [.t 11, .c (.pv (.i .i64 200))], (some 12), (some (10, false))⟩,
    ⟨.pick, [.t 10, .c (.pv (.b true)), .t 12], (some 13), none⟩,
    ⟨.mv, [.t 13], (some 14), none⟩,
    ⟨.mv, [.t 0], (some 15), (some (14, false))⟩,
    ⟨.lenS, [.t 15], (some 16), (some (14, false))⟩,
    ⟨(.bin .gtr), [.t 16, .c (.pv (.i .i64 200))], (some 17), (some (14, false))⟩,
    ⟨.pick, [.t 14, .c (.pv (.b true)), .t 17], (some 18), none⟩,
    ⟨.mv, [.t 18], (some 19), none⟩,
    ⟨.mv, [.t 1], (some 20), (some (19, false))⟩,
    ⟨.mv, [.t 2], (some 21), (some (19, false))⟩,
    ⟨.lenS, [.t 21], (some 22), (some (19, false))⟩,
    ⟨(.bin .add), [.t 20, .t 22], (some 23), (some (19, false))⟩,
    ⟨(.bin .gtr), [.t 23, .c (.pv (.i .i64 200))], (some 24), (some (19, false))⟩,
    ⟨.pick, [.t 19, .c (.pv (.b true)), .t 24], (some 25), none⟩])
  (.ite (.t 25) (.seq (.ops [⟨.mv, [.c (.pv (.s []))], (some 6), none⟩,
      ⟨.mv, [.c (.pv (.i .i64 4))], (some 7), none⟩])
    .ret)
    .skip))
  (.seq (.ops [⟨.mv, [.t 0], (some 26), none⟩,
    ⟨.mv, [.t 1], (some 27), none⟩,
    ⟨.mv, [.t 2], (some 28), none⟩,
    ⟨.lenS, [.t 28], (some 29), none⟩,
    ⟨(.bin .add), [.t 27, .t 29], (some 30), none⟩,
    ⟨.mv, [.t 0], (some 31), none⟩,
    ⟨.lenS, [.t 31], (some 32), none⟩,
    ⟨(.bin .sub), [.t 30, .t 32], (some 33), none⟩,
    ⟨(.call 60), [.t 33], (some 34), none⟩,
    ⟨(.bin .add), [.t 26, .t 34], (some 35), none⟩,
    ⟨.mv, [.t 35], (some 0), none⟩])
  (.seq (.any [] [(⟨.mv, [.t 0], (some 36), none⟩, 0, []),
    (⟨.mv, [.t 1], (some 37), none⟩, 0, []),
    (⟨(.sls false true), [.t 36, .t 37], (some 38), none⟩, 0, []),
    (⟨.mv, [.t 2], (some 39), none⟩, 0, []),
    (⟨(.bin .add), [.t 38, .t 39], (some 40), none⟩, 0, []),
    (⟨.mv, [.t 0], (some 41), none⟩, 0, []),
    (⟨.mv, [.t 1], (some 42), none⟩, 0, []),
    (⟨.mv, [.t 2], (some 43), none⟩, 0, []),
    (⟨.lenS, [.t 43], (some 44), none⟩, 0, []),
    (⟨(.bin .add), [.t 42, .t 44], (some 45), none⟩, 0, []),
    (⟨(.sls true false), [.t 41, .t 45], (some 46), none⟩, 0, []),
    (⟨(.bin .add), [.t 40, .t 46], (some 47), none⟩, 0, []),
    (⟨.mv, [.t 47], (some 6), none⟩, 0, []),
    (⟨.mv, [.c (.pv (.i .i64 0))], (some 7), none⟩, 0, [])])
  .ret))))
theorem fn20 : fnOf Try.prog 20 = some (48, [.t 6, .t 7], ir20) := by kernel_rfl
def ir21 : C :=
  (.seq (.ops [⟨.mv, [.c (.pv (.s []))], (some 4), none⟩,
    ⟨.mv, [.c (.pv (.i .i64 0))], (some 5), none⟩])
  (.seq (.seq (.ops [⟨.mv, [.t 1], (some 6), none⟩,
    ⟨(.bin .lss), [.t 6, .c (.pv (.i .i64 0))], (some 7), none⟩,
    ⟨.mv, [.t 7], (some 8), none⟩,
    ⟨.mv, [.t 1], (some 9), (some (8, false))⟩,
    ⟨(.bin .gtr), [.t 9, .c (.pv (.i .i64 200))], (some 10), (some (8, false))⟩,
    ⟨.pick, [.t 8, .c (.pv (.b true)), .t 10], (some 11), none⟩])
  (.ite (.t 11) (.seq (.ops [⟨.mv, [.c (.pv (.s []))], (some 4), none⟩,
      ⟨.mv, [.c (.pv (.i .i64 4))], (some 5), none⟩])
    .ret)
    .skip))
  (.seq (.seq (.ops [⟨.mv, [.t 1], (some 12), none⟩,
    ⟨.mv, [.t 0], (some 13), none⟩,
    ⟨.lenS, [.t 13], (some 14), none⟩,
    ⟨(.bin .lss), [.t 12, .t 14], (some 15), none⟩])
  (.ite (.t 15) (.seq (.ops [⟨.mv, [.t 0], (some 16), none⟩,
      ⟨.mv, [.t 1], (some 17), none⟩,
      ⟨(.sls false true), [.t 16, .t 17], (some 18), none⟩,
      ⟨.mv, [.t 18], (some 4), none⟩,
      ⟨.mv, [.c (.pv (.i .i64 0))], (some 5), none⟩])
    .ret)
    .skip))
  (.seq (.ops [⟨.mv, [.t 0], (some 19), none⟩,
    ⟨.mv, [.t 1], (some 20), none⟩,
    ⟨.mv, [.t 0], (some 21), none⟩,
    ⟨.lenS, [.t 21], (some 22), none⟩,
    ⟨(.bin .sub), [.t 20, .t 22], (some 23), none⟩,
    ⟨(.mks [.i .u8 0] 1), [.t 23, .t 23], (some 24), none⟩,
    ⟨.b2s, [.t 24], (some 25), none⟩,
    ⟨(.bin .add), [.t 19, .t 25], (some 26), none⟩,
    ⟨.mv, [.t 26], (some 4), none⟩,
    ⟨.mv, [.c (.pv (.i .i64 0))], (some 5), none⟩])
  .ret))))
theorem fn21 : fnOf Try.prog 21 = some (27, [.t 4, .t 5], ir21) := by kernel_rfl
def ir22 : C :=
  (.seq (.ops [⟨.mv, [.c (.pv (.s []))], (some 4), none⟩,
    ⟨.mv, [.c (.pv (.i .i64 0))], (some 5), none⟩])
  (.seq (.seq (.ops [⟨.mv, [.t 1], (some 6), none⟩,
    ⟨(.bin .lss), [.t 6, .c (.pv (.i .i64 0))], (some 7), none⟩,
    ⟨.mv, [.t 7], (some 8), none⟩,
    ⟨.mv, [.t 1], (some 9), (some (8, false))⟩,
    ⟨(.bin .gtr), [.t 9, .c (.pv (.i .i64 200))], (some 10), (some (8, false))⟩,
    ⟨.pick, [.t 8, .c (.pv (.b true)), .t 10], (some 11), none⟩])
  (.ite (.t 11) (.seq (.ops [⟨.mv, [.c (.pv (.s []))], (some 4), none⟩,
      ⟨.mv, [.c (.pv (.i .i64 4))], (some 5), none⟩])
    .ret)
    .skip))
  (.seq (.ops [⟨.mv, [.t 0], (some 12), none⟩,
    ⟨.mv, [.t 1], (some 13), none⟩,
    ⟨.mv, [.t 0], (some 14), none⟩,
    ⟨.lenS, [.t 14], (some 15), none⟩,
    ⟨(.bin .sub), [.t 13, .t 15], (some 16), none⟩,
    ⟨(.call 60), [.t 16], (some 17), none⟩,
    ⟨(.bin .add), [.t 12, .t 17], (some 18), none⟩,
    ⟨.mv, [.t 18], (some 0), none⟩])
  (.seq (.ops [⟨.mv, [.t 0], (some 19), none⟩,
    ⟨.mv, [.t 1], (some 20), none⟩,
    ⟨(.sls false true), [.t 19, .t 20], (some 21), none⟩,
    ⟨.mv, [.t 21], (some 4), none⟩,
    ⟨.mv, [.c (.pv (.i .i64 0))], (some 5), none⟩])
  .ret))))
theorem fn22 : fnOf Try.prog 22 = some (22, [.t 4, .t 5], ir22) := by kernel_rfl
def ir23 : C :=
  (.seq (.ops [⟨.mv, [.c (.pv (.b false))], (some 2), none⟩])
  (.seq (.seq (.ops [⟨.mv, [.t 0], (some 5), none⟩,
    ⟨.len, [.t 5], (some 6), none⟩,
    ⟨(.bin .gtr), [.t 6, .c (.pv (.i .i64 30))], (some 7), none⟩,
    ⟨.mv, [.t 7], (some 8), none⟩,
    ⟨.mv, [.t 0], (some 9), (some (8, false))⟩,
    ⟨(.call 61), [.t 9], (some 10), (some (8, false))⟩,
    ⟨(.un .not), [.t 10], (some 11), (some (8, false))⟩,
    ⟨.pick, [.t 8, .c (.pv (.b true)), .t 11], (some 12), none⟩])
  (.ite (.t 12) (.seq (.ops [⟨.mv, [.c (.pv (.b false))], (some 2), none⟩])
    .ret)
    .skip))
  (.seq (.seq (.ops [⟨.mv, [.t 0], (some 13), none⟩,
    ⟨.len, [.t 13], (some 14), none⟩,
    ⟨.mv, [.c (.pv (.i .i64 0))], (some 15), none⟩])
  (.block 0 (.loop (.seq (.ops [⟨(.bin .lss), [.t 15, .t 14], (some 16), none⟩])
      (.seq (.ite (.t 16) .skip
        (.exit 0))
      (.seq (.block 1 (.seq (.ops [⟨(.iaS 11), [.t 13, .t 15], (some 17), none⟩,
          ⟨(.ld 11 true), [.t 17], (some 18), none⟩,
          ⟨(.new (.agg [.pv (.i .i64 0), .pv (.i .u32 0), .pv (.s []), .vec 8 (List.replicate 8 (.i .u32 0))])), [], (some 4), none⟩,
          ⟨(.sto 11), [.t 4, .t 18], none, none⟩])
        (.seq (.ops [⟨(.fa 2), [.t 4], (some 19), none⟩,
          ⟨(.ld 1 false), [.t 19], (some 20), none⟩,
          ⟨.lenS, [.t 20], (some 21), none⟩,
          ⟨(.bin .gtr), [.t 21, .c (.pv (.i .i64 300))], (some 22), none⟩])
        (.ite (.t 22) (.seq (.ops [⟨.mv, [.c (.pv (.b false))], (some 2), none⟩])
          .ret)
          .skip))))
      (.ops [⟨(.bin .add), [.t 15, .c (.pv (.i .i64 1))], (some 23), none⟩,
        ⟨.mv, [.t 23], (some 15), none⟩])))))))
  (.seq (.ops [⟨.mv, [.c (.pv (.b true))], (some 2), none⟩])
  .ret))))
theorem fn23 : fnOf Try.prog 23 = some (24, [.t 2], ir23) := by kernel_rfl
def ir24 : C :=
  (.seq (.ops [⟨.mv, [.c (.pv (.sl true 0 []))], (some 2), none⟩])
  (.seq (.ops [⟨.mv, [.c (.pv (.sl true 0 []))], (some 3), none⟩])
  (.seq (.seq (.ops [⟨.mv, [.t 0], (some 6), none⟩,
    ⟨.len, [.t 6], (some 7), none⟩,
    ⟨.mv, [.c (.pv (.i .i64 0))], (some 8), none⟩])
  (.block 0 (.loop (.seq (.ops [⟨(.bin .lss), [.t 8, .t 7], (some 9), none⟩])
      (.seq (.ite (.t 9) .skip
        (.exit 0))
      (.seq (.block 1 (.seq (.ops [⟨(.iaS 11), [.t 6, .t 8], (some 10), none⟩,
          ⟨(.ld 11 true), [.t 10], (some 11), none⟩,
          ⟨(.new (.agg [.pv (.i .i64 0), .pv (.i .u32 0), .pv (.s []), .vec 8 (List.replicate 8 (.i .u32 0))])), [], (some 5), none⟩,
          ⟨(.sto 11), [.t 5, .t 11], none, none⟩])
        (.seq (.ops [⟨(.ld 11 true), [.t 5], (some 12), none⟩,
          ⟨(.call 32), [.t 12], (some 13), none⟩])
        (.ite (.t 13) (.ops [⟨.mv, [.t 3], (some 14), none⟩,
            ⟨(.ld 11 true), [.t 5], (some 15), none⟩,
            ⟨(.bsl 11), [.t 15], (some 16), none⟩,
            ⟨(.app 11 64), [.t 14, .t 16], (some 17), none⟩,
            ⟨.mv, [.t 17], (some 3), none⟩])
          .skip))))
      (.ops [⟨(.bin .add), [.t 8, .c (.pv (.i .i64 1))], (some 18), none⟩,
        ⟨.mv, [.t 18], (some 8), none⟩])))))))
  (.seq (.ops [⟨.mv, [.t 3], (some 19), none⟩,
    ⟨.mv, [.t 19], (some 2), none⟩])
  .ret))))
theorem fn24 : fnOf Try.prog 24 = some (20, [.t 2], ir24) := by kernel_rfl
def ir25 : C :=
  (.seq (.ops [⟨.box, [.t 2], (some 5), none⟩,
    ⟨.mv, [.c (.pv (.sl true 0 []))], (some 6), none⟩,
    ⟨.mv, [.c (.pv (.i .i64 0))], (some 7), none⟩])
  (.seq (.ops [⟨.mv, [.t 0], (some 15), none⟩,
    ⟨(.call 62), [.t 15], (some 16), none⟩,
    ⟨.mv, [.t 16], (some 8), none⟩])
  (.seq (.seq (.ops [⟨.mv, [.t 1], (some 17), none⟩,
    ⟨.len, [.t 17], (some 18), none⟩,
    ⟨.mv, [.c (.pv (.i .i64 0))], (some 19), none⟩])
  (.block 0 (.loop (.seq (.ops [⟨(.bin .lss), [.t 19, .t 18], (some 20), none⟩])
      (.seq (.ite (.t 20) .skip
        (.exit 0))
      (.seq (.block 1 (.seq (.ops [⟨(.iaS 2), [.t 17, .t 19], (some 21), none⟩,
          ⟨(.ld 2 true), [.t 21], (some 22), none⟩,
          ⟨(.new (.agg [.pv (.i .i64 0), .pv (.i .u32 0)])), [], (some 10), none⟩,
          ⟨(.sto 2), [.t 10, .t 22], none, none⟩])
        (.seq (.ops [⟨.mv, [.t 8], (some 24), none⟩,
          ⟨(.ld 2 true), [.t 10], (some 25), none⟩,
          ⟨(.call 63), [.t 24, .t 25], (some 26), none⟩,
          ⟨.mv, [.t 26], (some 23), none⟩,
          ⟨(.ext 0), [.t 23], (some 27), none⟩,
          ⟨(.ext 1), [.t 23], (some 28), none⟩,
          ⟨.mv, [.t 27], (some 11), none⟩,
          ⟨.mv, [.t 28], (some 12), none⟩])
        (.seq (.seq (.ops [⟨.mv, [.t 12], (some 29), none⟩,
          ⟨(.un .not), [.t 29], (some 30), none⟩])
        (.ite (.t 30) (.seq (.ops [⟨.mv, [.c (.pv (.sl true 0 []))], (some 6), none⟩,
            ⟨.mv, [.c (.pv (.i .i64 2))], (some 7), none⟩])
          .ret)
          .skip))
        (.any [40] [(⟨.mv, [.t 8], (some 31), none⟩, 0, [40]),
          (⟨.mv, [.t 11], (some 32), none⟩, 0, [40]),
          (⟨.mv, [.t 8], (some 33), none⟩, 0, [40]),
          (⟨.mv, [.t 11], (some 34), none⟩, 0, [40]),
          (⟨(.iaS 11), [.t 33, .t 34], (some 35), none⟩, 1, [40]),
          (⟨(.fa 3), [.t 35], (some 36), none⟩, 0, [40]),
          (⟨(.ld 8 true), [.t 36], (some 37), none⟩, 1, [40]),
          (⟨(.fa 0), [.t 5], (some 38), none⟩, 0, [40]),
          (⟨(.ld 2 true), [.t 38], (some 39), none⟩, 1, [40]),
          (⟨(.call 64), [.t 37, .t 39], (some 40), none⟩, 1, [40]),
          (⟨(.iaS 11), [.t 31, .t 32], (some 41), none⟩, 1, []),
          (⟨(.fa 3), [.t 41], (some 42), none⟩, 0, []),
          (⟨(.sto 8), [.t 42, .t 40], none, none⟩, 2, [])])))))
      (.ops [⟨(.bin .add), [.t 19, .c (.pv (.i .i64 1))], (some 43), none⟩,
        ⟨.mv, [.t 43], (some 19), none⟩])))))))
  (.seq (.ops [⟨.mv, [.t 8], (some 45), none⟩,
    ⟨(.fa 0), [.t 5], (some 46), none⟩,
    ⟨(.ld 2 true), [.t 46], (some 47), none⟩,
    ⟨(.call 63), [.t 45, .t 47], (some 48), none⟩,
    ⟨.mv, [.t 48], (some 44), none⟩,
    ⟨(.ext 0), [.t 44], (some 49), none⟩,
    ⟨(.ext 1), [.t 44], (some 50), none⟩,
    ⟨.mv, [.t 49], (some 13), none⟩,
    ⟨.mv, [.t 50], (some 14), none⟩])
  (.seq (.seq (.ops [⟨.mv, [.t 14], (some 51), none⟩])
  (.ite (.t 51) (.seq (.ops [⟨.mv, [.c (.pv (.sl true 0 []))], (some 6), none⟩,
      ⟨.mv, [.c (.pv (.i .i64 11))], (some 7), none⟩])
    .ret)
    .skip))
  (.seq (.ops [⟨.mv, [.t 8], (some 52), none⟩,
    ⟨.mv, [.t 13], (some 53), none⟩,
    ⟨(.ld 11 true), [.t 5], (some 54), none⟩,
    ⟨(.bsl 11), [.t 54], (some 55), none⟩,
    ⟨(.call 65), [.t 52, .t 53, .t 55], (some 56), none⟩,
    ⟨.mv, [.t 56], (some 6), none⟩,
    ⟨.mv, [.c (.pv (.i .i64 0))], (some 7), none⟩])
  .ret))))))
theorem fn25 : fnOf Try.prog 25 = some (57, [.t 6, .t 7], ir25) := by kernel_rfl
def ir26 : C :=
  (.seq (.ops [⟨.mv, [.c (.pv (.b false))], (some 4), none⟩])
  (.seq (.seq (.ops [⟨.mv, [.t 0], (some 6), none⟩,
    ⟨.len, [.t 6], (some 7), none⟩,
    ⟨.mv, [.t 1], (some 8), none⟩,
    ⟨.len, [.t 8], (some 9), none⟩,
    ⟨(.bin .neq), [.t 7, .t 9], (some 10), none⟩])
  (.ite (.t 10) (.seq (.ops [⟨.mv, [.c (.pv (.b false))], (some 4), none⟩])
    .ret)
    .skip))
  (.seq (.seq (.ops [⟨.mv, [.c (.pv (.i .i64 0))], (some 5), none⟩])
  (.block 0 (.loop (.seq (.seq (.ops [⟨.mv, [.t 5], (some 11), none⟩,
        ⟨.mv, [.t 0], (some 12), none⟩,
        ⟨.len, [.t 12], (some 13), none⟩,
        ⟨(.bin .lss), [.t 11, .t 13], (some 14), none⟩])
      (.ite (.t 14) .skip
        (.exit 0)))
      (.seq (.block 1 (.seq (.any [] [(⟨.mv, [.t 0], (some 17), none⟩, 0, []),
          (⟨.mv, [.t 5], (some 18), none⟩, 0, []),
          (⟨(.iaS 11), [.t 17, .t 18], (some 19), none⟩, 1, []),
          (⟨(.ld 11 true), [.t 19], (some 20), none⟩, 1, []),
          (⟨.mv, [.t 1], (some 21), none⟩, 0, []),
          (⟨.mv, [.t 5], (some 22), none⟩, 0, []),
          (⟨(.iaS 11), [.t 21, .t 22], (some 23), none⟩, 1, []),
          (⟨(.ld 11 true), [.t 23], (some 24), none⟩, 1, []),
          (⟨(.eqv true [.int .i64, .int .u32, .str, .int .u32, .int .u32, .int .u32, .int .u32, .int .u32, .int .u32, .int .u32, .int .u32]), [.t 20, .t 24], (some 25), none⟩, 0, [])])
        (.ite (.t 25) (.seq (.ops [⟨.mv, [.c (.pv (.b false))], (some 4), none⟩])
          .ret)
          .skip)))
      (.ops [⟨.mv, [.t 5], (some 15), none⟩,
        ⟨(.bin .add), [.t 15, .c (.pv (.i .i64 1))], (some 16), none⟩,
        ⟨.mv, [.t 16], (some 5), none⟩]))))))
  (.seq (.ops [⟨.mv, [.c (.pv (.b true))], (some 4), none⟩])
  .ret))))
theorem fn26 : fnOf Try.prog 26 = some (26, [.t 4], ir26) := by kernel_rfl
def ir27 : C :=
  (.seq (.ops [⟨(.new (.agg [.pv (.i .i64 0), .pv (.i .u32 0)])), [], (some 4), none⟩])
  (.seq (.ops [⟨.mv, [.t 0], (some 5), none⟩,
    ⟨.mv, [.t 1], (some 6), none⟩,
    ⟨(.bld [1, 1]), [.t 5, .t 6], (some 7), none⟩,
    ⟨(.sto 2), [.t 4, .t 7], none, none⟩])
  .ret))
theorem fn27 : fnOf Try.prog 27 = some (8, [.c 4 2 true], ir27) := by kernel_rfl
def ir28 : C :=
  (.seq (.ops [⟨.box, [.t 2], (some 5), none⟩,
    ⟨.mv, [.c (.pv (.sl true 0 []))], (some 6), none⟩,
    ⟨.mv, [.c (.pv (.i .i64 0))], (some 7), none⟩])
  (.seq (.seq (.ops [⟨.mv, [.c (.pv (.i .i64 0))], (some 8), none⟩])
  (.block 0 (.loop (.seq (.seq (.ops [⟨.mv, [.t 8], (some 16), none⟩,
        ⟨.mv, [.t 1], (some 17), none⟩,
        ⟨.len, [.t 17], (some 18), none⟩,
        ⟨(.bin .lss), [.t 16, .t 18], (some 19), none⟩])
      (.ite (.t 19) .skip
        (.exit 0)))
      (.seq (.block 1 (.seq (.ops [⟨.mv, [.t 0], (some 23), none⟩,
          ⟨.mv, [.t 1], (some 24), none⟩,
          ⟨.mv, [.t 8], (some 25), none⟩,
          ⟨(.iaS 2), [.t 24, .t 25], (some 26), none⟩,
          ⟨(.ld 2 true), [.t 26], (some 27), none⟩,
          ⟨(.call 30), [.t 23, .t 27], (some 28), none⟩,
          ⟨.mv, [.t 28], (some 22), none⟩,
          ⟨(.ext 0), [.t 22], (some 29), none⟩,
          ⟨(.ext 1), [.t 22], (some 30), none⟩,
          ⟨.mv, [.t 29], (some 9), none⟩,
          ⟨.mv, [.t 30], (some 10), none⟩])
        (.seq (.ops [⟨.mv, [.t 10], (some 31), none⟩,
          ⟨(.bin .neq), [.t 31, .c (.pv (.i .i64 0))], (some 32), none⟩,
          ⟨.mv, [.t 32], (some 33), none⟩,
          ⟨.mv, [.t 1], (some 34), (some (33, false))⟩,
          ⟨.mv, [.t 8], (some 35), (some (33, false))⟩,
          ⟨(.iaS 2), [.t 34, .t 35], (some 36), (some (33, false))⟩,
          ⟨(.fa 0), [.t 36], (some 37), (some (33, false))⟩,
          ⟨(.ld 1 false), [.t 37], (some 38), (some (33, false))⟩,
          ⟨(.bin .eql), [.t 38, .c (.pv (.i .i64 0))], (some 39), (some (33, false))⟩,
          ⟨.mv, [.t 39], (some 40), (some (33, false))⟩,
          ⟨.mv, [.t 1], (some 41), (some (40, true))⟩,
          ⟨.mv, [.t 8], (some 42), (some (40, true))⟩,
          ⟨(.iaS 2), [.t 41, .t 42], (some 43), (some (40, true))⟩,
          ⟨(.fa 1), [.t 43], (some 44), (some (40, true))⟩,
          ⟨(.ld 1 false), [.t 44], (some 45), (some (40, true))⟩,
          ⟨(.bin .eql), [.t 45, .c (.pv (.i .u32 0))], (some 46), (some (40, true))⟩,
          ⟨.pick, [.t 40, .t 46, .c (.pv (.b false))], (some 47), (some (33, false))⟩,
          ⟨.mv, [.t 47], (some 48), (some (33, false))⟩,
          ⟨.mv, [.t 0], (some 49), (some (48, true))⟩,
          ⟨.mv, [.t 1], (some 50), (some (48, true))⟩,
          ⟨.mv, [.t 8], (some 51), (some (48, true))⟩,
          ⟨(.iaS 2), [.t 50, .t 51], (some 52), (some (48, true))⟩,
          ⟨(.ld 2 true), [.t 52], (some 53), (some (48, true))⟩,
          ⟨(.call 66), [.t 49, .t 53], (some 54), (some (48, true))⟩,
          ⟨(.un .not), [.t 54], (some 55), (some (48, true))⟩,
          ⟨.pick, [.t 48, .t 55, .c (.pv (.b false))], (some 56), (some (33, false))⟩,
          ⟨.pick, [.t 33, .c (.pv (.b true)), .t 56], (some 57), none⟩])
        (.ite (.t 57) (.seq (.ops [⟨.mv, [.c (.pv (.sl true 0 []))], (some 6), none⟩,
            ⟨.mv, [.c (.pv (.i .i64 2))], (some 7), none⟩])
          .ret)
          .skip))))
      (.ops [⟨.mv, [.t 8], (some 20), none⟩,
        ⟨(.bin .add), [.t 20, .c (.pv (.i .i64 1))], (some 21), none⟩,
        ⟨.mv, [.t 21], (some 8), none⟩]))))))
  (.seq (.seq (.ops [⟨.mv, [.t 0], (some 58), none⟩,
    ⟨(.fa 0), [.t 5], (some 59), none⟩,
    ⟨(.ld 2 true), [.t 59], (some 60), none⟩,
    ⟨(.call 66), [.t 58, .t 60], (some 61), none⟩])
  (.ite (.t 61) (.seq (.ops [⟨.mv, [.c (.pv (.sl true 0 []))], (some 6), none⟩,
      ⟨.mv, [.c (.pv (.i .i64 11))], (some 7), none⟩])
    .ret)
    .skip))
  (.seq (.ops [⟨.mv, [.c (.pv (.sl true 0 []))], (some 11), none⟩])
  (.seq (.ops [⟨.mv, [.c (.pv (.b false))], (some 12), none⟩])
  (.seq (.seq (.ops [⟨.mv, [.c (.pv (.i .i64 0))], (some 13), none⟩])
  (.block 2 (.loop (.seq (.seq (.ops [⟨.mv, [.t 13], (some 62), none⟩,
        ⟨.mv, [.t 0], (some 63), none⟩,
        ⟨.len, [.t 63], (some 64), none⟩,
        ⟨(.bin .lss), [.t 62, .t 64], (some 65), none⟩])
      (.ite (.t 65) .skip
        (.exit 2)))
      (.seq (.block 3 (.seq (.seq (.any [78] [(⟨.mv, [.t 12], (some 68), none⟩, 0, [78]),
          (⟨(.un .not), [.t 68], (some 69), none⟩, 0, [78]),
          (⟨.mv, [.t 69], (some 70), none⟩, 0, [78]),
          (⟨(.fa 0), [.t 5], (some 71), (some (70, true))⟩, 0, [78]),
          (⟨(.ld 2 true), [.t 71], (some 72), (some (70, true))⟩, 1, [78]),
          (⟨.mv, [.t 0], (some 73), (some (70, true))⟩, 0, [78]),
          (⟨.mv, [.t 13], (some 74), (some (70, true))⟩, 0, [78]),
          (⟨(.iaS 11), [.t 73, .t 74], (some 75), (some (70, true))⟩, 1, [78]),
          (⟨(.fa 0), [.t 75], (some 76), (some (70, true))⟩, 0, [78]),
          (⟨(.ld 2 true), [.t 76], (some 77), (some (70, true))⟩, 1, [78]),
          (⟨(.call 67), [.t 72, .t 77], (some 78), (some (70, true))⟩, 1, [78]),
          (⟨.pick, [.t 70, .t 78, .c (.pv (.b false))], (some 79), none⟩, 0, [])])
        (.ite (.t 79) (.seq (.ops [⟨.mv, [.t 11], (some 80), none⟩,
            ⟨(.ld 11 true), [.t 5], (some 81), none⟩,
            ⟨(.bsl 11), [.t 81], (some 82), none⟩,
            ⟨(.app 11 64), [.t 80, .t 82], (some 83), none⟩,
            ⟨.mv, [.t 83], (some 11), none⟩])
          (.ops [⟨.mv, [.c (.pv (.b true))], (some 12), none⟩]))
          .skip))
        (.seq (.ops [⟨.mv, [.t 0], (some 84), none⟩,
          ⟨.mv, [.t 13], (some 85), none⟩,
          ⟨(.iaS 11), [.t 84, .t 85], (some 86), none⟩,
          ⟨(.ld 11 true), [.t 86], (some 87), none⟩,
          ⟨(.new (.agg [.pv (.i .i64 0), .pv (.i .u32 0), .pv (.s []), .vec 8 (List.replicate 8 (.i .u32 0))])), [], (some 14), none⟩,
          ⟨(.sto 11), [.t 14, .t 87], none, none⟩])
        (.seq (.seq (.ops [⟨.mv, [.c (.pv (.i .i64 0))], (some 15), none⟩])
        (.block 4 (.loop (.seq (.seq (.ops [⟨.mv, [.t 15], (some 88), none⟩,
              ⟨.mv, [.t 1], (some 89), none⟩,
              ⟨.len, [.t 89], (some 90), none⟩,
              ⟨(.bin .lss), [.t 88, .t 90], (some 91), none⟩])
            (.ite (.t 91) .skip
              (.exit 4)))
            (.seq (.block 5 (.seq (.any [] [(⟨.mv, [.t 1], (some 94), none⟩, 0, []),
                (⟨.mv, [.t 15], (some 95), none⟩, 0, []),
                (⟨(.iaS 2), [.t 94, .t 95], (some 96), none⟩, 1, []),
                (⟨(.ld 2 true), [.t 96], (some 97), none⟩, 1, []),
                (⟨(.fa 0), [.t 14], (some 98), none⟩, 0, []),
                (⟨(.ld 2 true), [.t 98], (some 99), none⟩, 1, []),
                (⟨(.eqv false [.int .i64, .int .u32]), [.t 97, .t 99], (some 100), none⟩, 0, [])])
              (.ite (.t 100) (.ops [⟨(.fa 3), [.t 14], (some 101), none⟩,
                  ⟨(.ld 8 true), [.t 101], (some 102), none⟩,
                  ⟨(.fa 0), [.t 5], (some 103), none⟩,
                  ⟨(.ld 2 true), [.t 103], (some 104), none⟩,
                  ⟨(.call 68), [.t 102, .t 104], (some 105), none⟩,
                  ⟨(.fa 3), [.t 14], (some 106), none⟩,
                  ⟨(.sto 8), [.t 106, .t 105], none, none⟩])
                .skip)))
            (.ops [⟨.mv, [.t 15], (some 92), none⟩,
              ⟨(.bin .add), [.t 92, .c (.pv (.i .i64 1))], (some 93), none⟩,
              ⟨.mv, [.t 93], (some 15), none⟩]))))))
        (.ops [⟨.mv, [.t 11], (some 107), none⟩,
          ⟨(.ld 11 true), [.t 14], (some 108), none⟩,
          ⟨(.bsl 11), [.t 108], (some 109), none⟩,
          ⟨(.app 11 64), [.t 107, .t 109], (some 110), none⟩,
          ⟨.mv, [.t 110], (some 11), none⟩])))))
      (.ops [⟨.mv, [.t 13], (some 66), none⟩,
        ⟨(.bin .add), [.t 66, .c (.pv (.i .i64 1))], (some 67), none⟩,
        ⟨.mv, [.t 67], (some 13), none⟩]))))))
  (.seq (.seq (.ops [⟨.mv, [.t 12], (some 111), none⟩,
    ⟨(.un .not), [.t 111], (some 112), none⟩])
  (.ite (.t 112) (.ops [⟨.mv, [.t 11], (some 113), none⟩,
      ⟨(.ld 11 true), [.t 5], (some 114), none⟩,
      ⟨(.bsl 11), [.t 114], (some 115), none⟩,
      ⟨(.app 11 64), [.t 113, .t 115], (some 116), none⟩,
      ⟨.mv, [.t 116], (some 11), none⟩])
    .skip))
  (.seq (.ops [⟨.mv, [.t 11], (some 117), none⟩,
    ⟨.mv, [.t 117], (some 6), none⟩,
    ⟨.mv, [.c (.pv (.i .i64 0))], (some 7), none⟩])
  .ret))))))))
theorem fn28 : fnOf Try.prog 28 = some (118, [.t 6, .t 7], ir28) := by kernel_rfl
def ir29 : C :=
  (.seq (.ops [⟨.box, [.t 1], (some 3), none⟩,
    ⟨.mv, [.c (.pv (.s []))], (some 4), none⟩,
    ⟨.mv, [.c (.pv (.i .i64 0))], (some 5), none⟩])
  (.seq (.seq (.ops [⟨(.ld 2 true), [.t 3], (some 8), none⟩,
    ⟨(.bld [1, 1]), [.c (.pv (.i .i64 0)), .c (.pv (.i .u32 0))], (some 9), none⟩,
    ⟨(.eqv false [.int .i64, .int .u32]), [.t 8, .t 9], (some 10), none⟩])
  (.ite (.t 10) (.seq (.ops [⟨.mv, [.c (.pv (.s []))], (some 4), none⟩,
      ⟨.mv, [.c (.pv (.i .i64 0))], (some 5), none⟩])
    .ret)
    .skip))
  (.seq (.ops [⟨.mv, [.t 0], (some 12), none⟩,
    ⟨(.ld 2 true), [.t 3], (some 13), none⟩,
    ⟨(.call 63), [.t 12, .t 13], (some 14), none⟩,
    ⟨.mv, [.t 14], (some 11), none⟩,
    ⟨(.ext 0), [.t 11], (some 15), none⟩,
    ⟨(.ext 1), [.t 11], (some 16), none⟩,
    ⟨.mv, [.t 15], (some 6), none⟩,
    ⟨.mv, [.t 16], (some 7), none⟩])
  (.seq (.seq (.ops [⟨.mv, [.t 7], (some 17), none⟩,
    ⟨(.un .not), [.t 17], (some 18), none⟩])
  (.ite (.t 18) (.seq (.ops [⟨.mv, [.c (.pv (.s []))], (some 4), none⟩,
      ⟨.mv, [.c (.pv (.i .i64 2))], (some 5), none⟩])
    .ret)
    .skip))
  (.seq (.ops [⟨.mv, [.t 0], (some 19), none⟩,
    ⟨.mv, [.t 6], (some 20), none⟩,
    ⟨(.iaS 11), [.t 19, .t 20], (some 21), none⟩,
    ⟨(.fa 2), [.t 21], (some 22), none⟩,
    ⟨(.ld 1 false), [.t 22], (some 23), none⟩,
    ⟨.mv, [.t 23], (some 4), none⟩,
    ⟨.mv, [.c (.pv (.i .i64 0))], (some 5), none⟩])
  .ret)))))
theorem fn29 : fnOf Try.prog 29 = some (24, [.t 4, .t 5], ir29) := by kernel_rfl
def ir30 : C :=
  (.seq (.ops [⟨.box, [.t 1], (some 3), none⟩,
    ⟨.mv, [.c (.pv (.s []))], (some 4), none⟩,
    ⟨.mv, [.c (.pv (.i .i64 0))], (some 5), none⟩])
  (.seq (.seq (.ops [⟨(.fa 0), [.t 3], (some 7), none⟩,
    ⟨(.ld 1 false), [.t 7], (some 8), none⟩,
    ⟨(.bin .eql), [.t 8, .c (.pv (.i .i64 0))], (some 9), none⟩,
    ⟨.mv, [.t 9], (some 10), none⟩,
    ⟨(.fa 1), [.t 3], (some 11), (some (10, true))⟩,
    ⟨(.ld 1 false), [.t 11], (some 12), (some (10, true))⟩,
    ⟨(.bin .eql), [.t 12, .c (.pv (.i .u32 0))], (some 13), (some (10, true))⟩,
    ⟨.pick, [.t 10, .t 13, .c (.pv (.b false))], (some 14), none⟩])
  (.ite (.t 14) (.seq (.ops [⟨.mv, [.c (.pv (.s []))], (some 4), none⟩,
      ⟨.mv, [.c (.pv (.i .i64 0))], (some 5), none⟩])
    .ret)
    .skip))
  (.seq (.seq (.ops [⟨.mv, [.c (.pv (.i .i64 0))], (some 6), none⟩])
  (.block 0 (.loop (.seq (.seq (.ops [⟨.mv, [.t 6], (some 15), none⟩,
        ⟨.mv, [.t 0], (some 16), none⟩,
        ⟨.len, [.t 16], (some 17), none⟩,
        ⟨(.bin .lss), [.t 15, .t 17], (some 18), none⟩])
      (.ite (.t 18) .skip
        (.exit 0)))
      (.seq (.block 1 (.seq (.any [] [(⟨.mv, [.t 0], (some 21), none⟩, 0, []),
          (⟨.mv, [.t 6], (some 22), none⟩, 0, []),
          (⟨(.iaS 11), [.t 21, .t 22], (some 23), none⟩, 1, []),
          (⟨(.fa 0), [.t 23], (some 24), none⟩, 0, []),
          (⟨(.ld 2 true), [.t 24], (some 25), none⟩, 1, []),
          (⟨(.ld 2 true), [.t 3], (some 26), none⟩, 1, []),
          (⟨(.eqv false [.int .i64, .int .u32]), [.t 25, .t 26], (some 27), none⟩, 0, [])])
        (.ite (.t 27) (.seq (.ops [⟨.mv, [.t 0], (some 28), none⟩,
            ⟨.mv, [.t 6], (some 29), none⟩,
            ⟨(.iaS 11), [.t 28, .t 29], (some 30), none⟩,
            ⟨(.fa 2), [.t 30], (some 31), none⟩,
            ⟨(.ld 1 false), [.t 31], (some 32), none⟩,
            ⟨.mv, [.t 32], (some 4), none⟩,
            ⟨.mv, [.c (.pv (.i .i64 0))], (some 5), none⟩])
          .ret)
          .skip)))
      (.ops [⟨.mv, [.t 6], (some 19), none⟩,
        ⟨(.bin .add), [.t 19, .c (.pv (.i .i64 1))], (some 20), none⟩,
        ⟨.mv, [.t 20], (some 6), none⟩]))))))
  (.seq (.ops [⟨.mv, [.c (.pv (.s []))], (some 4), none⟩,
    ⟨.mv, [.c (.pv (.i .i64 2))], (some 5), none⟩])
  .ret))))
theorem fn30 : fnOf Try.prog 30 = some (33, [.t 4, .t 5], ir30) := by kernel_rfl
def ir31 : C :=
  (.seq (.ops [⟨.mv, [.c (.pv (.sl true 0 []))], (some 2), none⟩])
  (.seq (.ops [⟨.mv, [.c (.pv (.sl true 0 []))], (some 3), none⟩])
  (.seq (.seq (.ops [⟨.mv, [.c (.pv (.i .i64 0))], (some 4), none⟩])
  (.block 0 (.loop (.seq (.seq (.ops [⟨.mv, [.t 4], (some 5), none⟩,
        ⟨.mv, [.t 0], (some 6), none⟩,
        ⟨.len, [.t 6], (some 7), none⟩,
        ⟨(.bin .lss), [.t 5, .t 7], (some 8), none⟩])
      (.ite (.t 8) .skip
        (.exit 0)))
      (.seq (.block 1 (.seq (.ops [⟨.mv, [.t 0], (some 11), none⟩,
          ⟨.mv, [.t 4], (some 12), none⟩,
          ⟨(.iaS 11), [.t 11, .t 12], (some 13), none⟩,
          ⟨(.ld 11 true), [.t 13], (some 14), none⟩,
          ⟨(.call 33), [.t 14], (some 15), none⟩])
        (.ite (.t 15) (.ops [⟨.mv, [.t 3], (some 16), none⟩,
            ⟨.mv, [.t 0], (some 17), none⟩,
            ⟨.mv, [.t 4], (some 18), none⟩,
            ⟨(.iaS 11), [.t 17, .t 18], (some 19), none⟩,
            ⟨(.ld 11 true), [.t 19], (some 20), none⟩,
            ⟨(.bsl 11), [.t 20], (some 21), none⟩,
            ⟨(.app 11 64), [.t 16, .t 21], (some 22), none⟩,
            ⟨.mv, [.t 22], (some 3), none⟩])
          .skip)))
      (.ops [⟨.mv, [.t 4], (some 9), none⟩,
        ⟨(.bin .add), [.t 9, .c (.pv (.i .i64 1))], (some 10), none⟩,
        ⟨.mv, [.t 10], (some 4), none⟩]))))))
  (.seq (.ops [⟨.mv, [.t 3], (some 23), none⟩,
    ⟨.mv, [.t 23], (some 2), none⟩])
  .ret))))
theorem fn31 : fnOf Try.prog 31 = some (24, [.t 2], ir31) := by kernel_rfl
def ir32 : C :=
  (.seq (.ops [⟨.box, [.t 0], (some 1), none⟩,
    ⟨.mv, [.c (.pv (.b false))], (some 2), none⟩])
  (.seq (.ops [⟨(.fa 3), [.t 1], (some 3), none⟩,
    ⟨(.ld 8 true), [.t 3], (some 4), none⟩,
    ⟨(.bldV 8 1), [.c (.pv (.i .u32 0)), .c (.pv (.i .u32 0)), .c (.pv (.i .u32 0)), .c (.pv (.i .u32 0)), .c (.pv (.i .u32 0)), .c (.pv (.i .u32 0)), .c (.pv (.i .u32 0)), .c (.pv (.i .u32 0))], (some 5), none⟩,
    ⟨(.eqv false [.int .u32, .int .u32, .int .u32, .int .u32, .int .u32, .int .u32, .int .u32, .int .u32]), [.t 4, .t 5], (some 6), none⟩,
    ⟨.mv, [.t 6], (some 2), none⟩])
  .ret))
theorem fn32 : fnOf Try.prog 32 = some (7, [.t 2], ir32) := by kernel_rfl
def ir33 : C :=
  (.seq (.ops [⟨.box, [.t 0], (some 1), none⟩,
    ⟨.mv, [.c (.pv (.b false))], (some 2), none⟩])
  (.seq (.ops [⟨(.fa 3), [.t 1], (some 3), none⟩,
    ⟨(.ld 8 true), [.t 3], (some 4), none⟩,
    ⟨(.bld [2, 2, 1, 2, 8]), [.c (.agg [.pv (.i .i64 0), .pv (.i .u32 0)]), .c (.agg [.pv (.i .i64 0), .pv (.i .u32 0)]), .c (.pv (.s [])), .c (.agg [.pv (.i .i64 0), .pv (.i .u32 0)]), .t 4], (some 5), none⟩,
    ⟨(.call 69), [.t 5], (some 6), none⟩,
    ⟨.mv, [.t 6], (some 2), none⟩])
  .ret))
theorem fn33 : fnOf Try.prog 33 = some (7, [.t 2], ir33) := by kernel_rfl
def ir34 : C :=
  (.seq (.ops [⟨.box, [.t 1], (some 3), none⟩,
    ⟨.mv, [.c (.pv (.sl true 0 []))], (some 4), none⟩])
  (.seq (.ops [⟨.mv, [.t 0], (some 5), none⟩,
    ⟨(.call 62), [.t 5], (some 6), none⟩,
    ⟨(.mkf (.func 71)), [.t 3], (some 7), none⟩,
    ⟨(.call 70), [.t 6, .t 7], (some 8), none⟩,
    ⟨.mv, [.t 8], (some 4), none⟩])
  .ret))
theorem fn34 : fnOf Try.prog 34 = some (9, [.t 4], ir34) := by kernel_rfl
def ir35 : C :=
  (.seq (.ops [⟨.box, [.t 1], (some 3), none⟩,
    ⟨.mv, [.c (.pv (.sl true 0 []))], (some 4), none⟩])
  (.seq (.ops [⟨.mv, [.c (.pv (.sl true 0 []))], (some 5), none⟩])
  (.seq (.seq (.ops [⟨.mv, [.c (.pv (.i .i64 0))], (some 6), none⟩])
  (.block 0 (.loop (.seq (.seq (.ops [⟨.mv, [.t 6], (some 7), none⟩,
        ⟨.mv, [.t 0], (some 8), none⟩,
        ⟨.len, [.t 8], (some 9), none⟩,
        ⟨(.bin .lss), [.t 7, .t 9], (some 10), none⟩])
      (.ite (.t 10) .skip
        (.exit 0)))
      (.seq (.block 1 (.seq (.any [19] [(⟨.mv, [.t 0], (some 13), none⟩, 0, [19]),
          (⟨.mv, [.t 6], (some 14), none⟩, 0, [19]),
          (⟨(.iaS 11), [.t 13, .t 14], (some 15), none⟩, 1, [19]),
          (⟨(.fa 3), [.t 15], (some 16), none⟩, 0, [19]),
          (⟨(.ld 8 true), [.t 16], (some 17), none⟩, 1, [19]),
          (⟨(.ld 8 true), [.t 3], (some 18), none⟩, 1, [19]),
          (⟨(.call 73), [.t 17, .t 18], (some 19), none⟩, 1, [19]),
          (⟨(.un .not), [.t 19], (some 20), none⟩, 0, [])])
        (.ite (.t 20) (.ops [⟨.mv, [.t 5], (some 21), none⟩,
            ⟨.mv, [.t 0], (some 22), none⟩,
            ⟨.mv, [.t 6], (some 23), none⟩,
            ⟨(.iaS 11), [.t 22, .t 23], (some 24), none⟩,
            ⟨(.ld 11 true), [.t 24], (some 25), none⟩,
            ⟨(.bsl 11), [.t 25], (some 26), none⟩,
            ⟨(.app 11 64), [.t 21, .t 26], (some 27), none⟩,
            ⟨.mv, [.t 27], (some 5), none⟩])
          .skip)))
      (.ops [⟨.mv, [.t 6], (some 11), none⟩,
        ⟨(.bin .add), [.t 11, .c (.pv (.i .i64 1))], (some 12), none⟩,
        ⟨.mv, [.t 12], (some 6), none⟩]))))))
  (.seq (.ops [⟨.mv, [.t 5], (some 28), none⟩,
    ⟨.mv, [.t 28], (some 4), none⟩])
  .ret))))
theorem fn35 : fnOf Try.prog 35 = some (29, [.t 4], ir35) := by kernel_rfl
def ir36 : C :=
  (.seq (.ops [⟨.box, [.t 1], (some 3), none⟩,
    ⟨.mv, [.c (.pv (.b false))], (some 4), none⟩])
  (.seq (.ops [⟨.mv, [.t 0], (some 5), none⟩,
    ⟨(.call 24), [.t 5], (some 6), none⟩,
    ⟨(.mkf (.func 75)), [.t 3], (some 7), none⟩,
    ⟨(.call 74), [.t 6, .t 7], (some 8), none⟩,
    ⟨.mv, [.t 8], (some 4), none⟩])
  .ret))
theorem fn36 : fnOf Try.prog 36 = some (9, [.t 4], ir36) := by kernel_rfl
def ir37 : C :=
  (.seq (.ops [⟨.box, [.t 1], (some 3), none⟩,
    ⟨.mv, [.c (.pv (.b false))], (some 4), none⟩])
  (.seq (.seq (.ops [⟨.mv, [.c (.pv (.i .i64 0))], (some 5), none⟩])
  (.block 0 (.loop (.seq (.seq (.ops [⟨.mv, [.t 5], (some 6), none⟩,
        ⟨.mv, [.t 0], (some 7), none⟩,
        ⟨.len, [.t 7], (some 8), none⟩,
        ⟨(.bin .lss), [.t 6, .t 8], (some 9), none⟩])
      (.ite (.t 9) .skip
        (.exit 0)))
      (.seq (.block 1 (.seq (.any [16, 24] [(⟨.mv, [.t 0], (some 12), none⟩, 0, [16, 24]),
          (⟨.mv, [.t 5], (some 13), none⟩, 0, [16, 24]),
          (⟨(.iaS 11), [.t 12, .t 13], (some 14), none⟩, 1, [16, 24]),
          (⟨(.ld 11 true), [.t 14], (some 15), none⟩, 1, [16, 24]),
          (⟨(.call 33), [.t 15], (some 16), none⟩, 1, [16, 24]),
          (⟨.mv, [.t 16], (some 17), none⟩, 0, [24]),
          (⟨(.ld 8 true), [.t 3], (some 18), (some (17, true))⟩, 1, [16, 24]),
          (⟨.mv, [.t 0], (some 19), (some (17, true))⟩, 0, [16, 24]),
          (⟨.mv, [.t 5], (some 20), (some (17, true))⟩, 0, [16, 24]),
          (⟨(.iaS 11), [.t 19, .t 20], (some 21), (some (17, true))⟩, 1, [16, 24]),
          (⟨(.fa 0), [.t 21], (some 22), (some (17, true))⟩, 0, [16, 24]),
          (⟨(.ld 2 true), [.t 22], (some 23), (some (17, true))⟩, 1, [16, 24]),
          (⟨(.call 77), [.t 18, .t 23], (some 24), (some (17, true))⟩, 1, [16, 24]),
          (⟨(.un .not), [.t 24], (some 25), (some (17, true))⟩, 0, [16]),
          (⟨.pick, [.t 17, .t 25, .c (.pv (.b false))], (some 26), none⟩, 0, [16, 24])])
        (.ite (.t 26) (.seq (.ops [⟨.mv, [.c (.pv (.b true))], (some 4), none⟩])
          .ret)
          .skip)))
      (.ops [⟨.mv, [.t 5], (some 10), none⟩,
        ⟨(.bin .add), [.t 10, .c (.pv (.i .i64 1))], (some 11), none⟩,
        ⟨.mv, [.t 11], (some 5), none⟩]))))))
  (.seq (.ops [⟨.mv, [.c (.pv (.b false))], (some 4), none⟩])
  .ret)))
theorem fn37 : fnOf Try.prog 37 = some (27, [.t 4], ir37) := by kernel_rfl
def ir60 : C :=
  (.seq (.ops [⟨.mv, [.c (.pv (.s []))], (some 2), none⟩])
  (.seq (.ops [⟨.mv, [.c (.pv (.s []))], (some 3), none⟩])
  (.seq (.seq (.ops [⟨.mv, [.c (.pv (.i .i64 0))], (some 4), none⟩])
  (.block 0 (.loop (.seq (.seq (.ops [⟨.mv, [.t 4], (some 5), none⟩,
        ⟨.mv, [.t 0], (some 6), none⟩,
        ⟨(.bin .lss), [.t 5, .t 6], (some 7), none⟩])
      (.ite (.t 7) .skip
        (.exit 0)))
      (.seq (.block 1 (.ops [⟨.mv, [.t 3], (some 10), none⟩,
          ⟨(.bin .add), [.t 10, .c (.pv (.s [0]))], (some 11), none⟩,
          ⟨.mv, [.t 11], (some 3), none⟩]))
      (.ops [⟨.mv, [.t 4], (some 8), none⟩,
        ⟨(.bin .add), [.t 8, .c (.pv (.i .i64 1))], (some 9), none⟩,
        ⟨.mv, [.t 9], (some 4), none⟩]))))))
  (.seq (.ops [⟨.mv, [.t 3], (some 12), none⟩,
    ⟨.mv, [.t 12], (some 2), none⟩])
  .ret))))
theorem fn60 : fnOf Try.prog 60 = some (13, [.t 2], ir60) := by kernel_rfl
def ir61 : C :=
  (.seq (.ops [⟨.mv, [.c (.pv (.b false))], (some 2), none⟩])
  (.seq (.seq (.ops [⟨.mv, [.c (.pv (.i .i64 1))], (some 3), none⟩])
  (.block 0 (.loop (.seq (.seq (.ops [⟨.mv, [.t 3], (some 4), none⟩,
        ⟨.mv, [.t 0], (some 5), none⟩,
        ⟨.len, [.t 5], (some 6), none⟩,
        ⟨(.bin .lss), [.t 4, .t 6], (some 7), none⟩])
      (.ite (.t 7) .skip
        (.exit 0)))
      (.seq (.block 1 (.seq (.any [21] [(⟨.mv, [.t 0], (some 10), none⟩, 0, [21]),
          (⟨.mv, [.t 3], (some 11), none⟩, 0, [21]),
          (⟨(.bin .sub), [.t 11, .c (.pv (.i .i64 1))], (some 12), none⟩, 0, [21]),
          (⟨(.iaS 11), [.t 10, .t 12], (some 13), none⟩, 1, [21]),
          (⟨(.fa 0), [.t 13], (some 14), none⟩, 0, [21]),
          (⟨(.ld 2 true), [.t 14], (some 15), none⟩, 1, [21]),
          (⟨.mv, [.t 0], (some 16), none⟩, 0, [21]),
          (⟨.mv, [.t 3], (some 17), none⟩, 0, [21]),
          (⟨(.iaS 11), [.t 16, .t 17], (some 18), none⟩, 1, [21]),
          (⟨(.fa 0), [.t 18], (some 19), none⟩, 0, [21]),
          (⟨(.ld 2 true), [.t 19], (some 20), none⟩, 1, [21]),
          (⟨(.call 67), [.t 15, .t 20], (some 21), none⟩, 1, [21]),
          (⟨(.un .not), [.t 21], (some 22), none⟩, 0, [])])
        (.ite (.t 22) (.seq (.ops [⟨.mv, [.c (.pv (.b false))], (some 2), none⟩])
          .ret)
          .skip)))
      (.ops [⟨.mv, [.t 3], (some 8), none⟩,
        ⟨(.bin .add), [.t 8, .c (.pv (.i .i64 1))], (some 9), none⟩,
        ⟨.mv, [.t 9], (some 3), none⟩]))))))
  (.seq (.ops [⟨.mv, [.c (.pv (.b true))], (some 2), none⟩])
  .ret)))
theorem fn61 : fnOf Try.prog 61 = some (23, [.t 2], ir61) := by kernel_rfl
def ir62 : C :=
  (.seq (.ops [⟨.mv, [.c (.pv (.sl true 0 []))], (some 2), none⟩])
  (.seq (.seq (.ops [⟨.mv, [.t 0], (some 3), none⟩,
    ⟨(.eqn false), [.t 3], (some 4), none⟩])
  (.ite (.t 4) (.seq (.ops [⟨.mv, [.c (.pv (.sl true 0 []))], (some 2), none⟩])
    .ret)
    .skip))
  (.seq (.ops [⟨(.bsl 11), [], (some 5), none⟩,
    ⟨.mv, [.t 0], (some 6), none⟩,
    ⟨(.app 11 64), [.t 5, .t 6], (some 7), none⟩,
    ⟨.mv, [.t 7], (some 2), none⟩])
  .ret)))
theorem fn62 : fnOf Try.prog 62 = some (8, [.t 2], ir62) := by kernel_rfl
def ir63 : C :=
  (.seq (.ops [⟨.box, [.t 1], (some 3), none⟩,
    ⟨.mv, [.c (.pv (.i .i64 0))], (some 4), none⟩,
    ⟨.mv, [.c (.pv (.b false))], (some 5), none⟩])
  (.seq (.seq (.ops [⟨.mv, [.t 0], (some 8), none⟩,
    ⟨.len, [.t 8], (some 9), none⟩,
    ⟨.mv, [.c (.pv (.i .i64 0))], (some 10), none⟩])
  (.block 0 (.loop (.seq (.ops [⟨(.bin .lss), [.t 10, .t 9], (some 11), none⟩])
      (.seq (.ite (.t 11) .skip
        (.exit 0))
      (.seq (.block 1 (.seq (.ops [⟨.mv, [.t 10], (some 12), none⟩,
          ⟨(.iaS 11), [.t 8, .t 10], (some 13), none⟩,
          ⟨(.ld 11 true), [.t 13], (some 14), none⟩,
          ⟨(.new (.agg [.pv (.i .i64 0), .pv (.i .u32 0), .pv (.s []), .vec 8 (List.replicate 8 (.i .u32 0))])), [], (some 7), none⟩,
          ⟨.mv, [.t 12], (some 6), none⟩,
          ⟨(.sto 11), [.t 7, .t 14], none, none⟩])
        (.seq (.seq (.ops [⟨(.fa 0), [.t 7], (some 15), none⟩,
          ⟨(.ld 2 true), [.t 15], (some 16), none⟩,
          ⟨(.ld 2 true), [.t 3], (some 17), none⟩,
          ⟨(.eqv false [.int .i64, .int .u32]), [.t 16, .t 17], (some 18), none⟩])
        (.ite (.t 18) (.seq (.ops [⟨.mv, [.t 6], (some 19), none⟩,
            ⟨.mv, [.t 19], (some 4), none⟩,
            ⟨.mv, [.c (.pv (.b true))], (some 5), none⟩])
          .ret)
          .skip))
        (.seq (.ops [⟨(.ld 2 true), [.t 3], (some 20), none⟩,
          ⟨(.fa 0), [.t 7], (some 21), none⟩,
          ⟨(.ld 2 true), [.t 21], (some 22), none⟩,
          ⟨(.call 113), [.t 20, .t 22], (some 23), none⟩])
        (.ite (.t 23) (.seq (.ops [⟨.mv, [.t 6], (some 24), none⟩,
            ⟨.mv, [.t 24], (some 4), none⟩,
            ⟨.mv, [.c (.pv (.b false))], (some 5), none⟩])
          .ret)
          .skip)))))
      (.ops [⟨(.bin .add), [.t 10, .c (.pv (.i .i64 1))], (some 25), none⟩,
        ⟨.mv, [.t 25], (some 10), none⟩])))))))
  (.seq (.ops [⟨.mv, [.t 0], (some 26), none⟩,
    ⟨.len, [.t 26], (some 27), none⟩,
    ⟨.mv, [.t 27], (some 4), none⟩,
    ⟨.mv, [.c (.pv (.b false))], (some 5), none⟩])
  .ret)))
theorem fn63 : fnOf Try.prog 63 = some (28, [.t 4, .t 5], ir63) := by kernel_rfl
def ir64 : C :=
  (.seq (.ops [⟨.box, [.t 0], (some 2), none⟩,
    ⟨.box, [.t 1], (some 3), none⟩,
    ⟨(.new (.vec 8 (List.replicate 8 (.i .u32 0)))), [], (some 4), none⟩])
  (.seq (.seq (.ops [⟨(.fa 0), [.t 3], (some 5), none⟩,
    ⟨(.ld 1 false), [.t 5], (some 6), none⟩,
    ⟨(.bin .geq), [.t 6, .c (.pv (.i .i64 1))], (some 7), none⟩,
    ⟨.mv, [.t 7], (some 8), none⟩,
    ⟨(.fa 0), [.t 3], (some 9), (some (8, true))⟩,
    ⟨(.ld 1 false), [.t 9], (some 10), (some (8, true))⟩,
    ⟨(.bin .leq), [.t 10, .c (.pv (.i .i64 8))], (some 11), (some (8, true))⟩,
    ⟨.pick, [.t 8, .t 11, .c (.pv (.b false))], (some 12), none⟩])
  (.ite (.t 12) (.any [] [(⟨(.fa 0), [.t 3], (some 13), none⟩, 0, []),
      (⟨(.ld 1 false), [.t 13], (some 14), none⟩, 1, []),
      (⟨(.bin .sub), [.t 14, .c (.pv (.i .i64 1))], (some 15), none⟩, 0, []),
      (⟨(.fa 0), [.t 3], (some 16), none⟩, 0, []),
      (⟨(.ld 1 false), [.t 16], (some 17), none⟩, 1, []),
      (⟨(.bin .sub), [.t 17, .c (.pv (.i .i64 1))], (some 18), none⟩, 0, []),
      (⟨(.iaA 8 1), [.t 2, .t 18], (some 19), none⟩, 0, []),
      (⟨(.ld 1 false), [.t 19], (some 20), none⟩, 1, []),
      (⟨(.fa 1), [.t 3], (some 21), none⟩, 0, []),
      (⟨(.ld 1 false), [.t 21], (some 22), none⟩, 1, []),
      (⟨.mx, [.t 20, .t 22], (some 23), none⟩, 0, []),
      (⟨(.iaA 8 1), [.t 2, .t 15], (some 24), none⟩, 0, []),
      (⟨(.sto 1), [.t 24, .t 23], none, none⟩, 2, [])])
    .skip))
  (.seq (.ops [⟨(.ld 8 true), [.t 2], (some 25), none⟩,
    ⟨(.sto 8), [.t 4, .t 25], none, none⟩])
  .ret)))
theorem fn64 : fnOf Try.prog 64 = some (26, [.c 4 8 true], ir64) := by kernel_rfl
def ir65 : C :=
  (.seq (.ops [⟨.mv, [.c (.pv (.sl true 0 []))], (some 6), none⟩])
  (.seq (.ops [⟨.mv, [.t 0], (some 10), none⟩,
    ⟨.mv, [.t 1], (some 11), none⟩,
    ⟨(.slv 11 true false), [.t 10, .t 11], (some 12), none⟩])
  (.seq (.ops [⟨.mv, [.t 2], (some 13), none⟩,
    ⟨.len, [.t 13], (some 14), none⟩,
    ⟨.mv, [.t 14], (some 7), none⟩])
  (.seq (.seq (.ops [⟨.mv, [.t 7], (some 15), none⟩,
    ⟨(.bin .eql), [.t 15, .c (.pv (.i .i64 0))], (some 16), none⟩])
  (.ite (.t 16) (.seq (.ops [⟨.mv, [.t 0], (some 17), none⟩,
      ⟨.mv, [.t 17], (some 6), none⟩])
    .ret)
    .skip))
  (.seq (.ops [⟨.mv, [.t 0], (some 18), none⟩,
    ⟨.len, [.t 18], (some 19), none⟩,
    ⟨.mv, [.t 19], (some 8), none⟩])
  (.seq (.seq (.ops [⟨.mv, [.t 1], (some 20), none⟩,
    ⟨.mv, [.t 8], (some 21), none⟩,
    ⟨(.bin .eql), [.t 20, .t 21], (some 22), none⟩])
  (.ite (.t 22) (.seq (.ops [⟨.mv, [.t 0], (some 23), none⟩,
      ⟨.mv, [.t 2], (some 24), none⟩,
      ⟨(.app 11 64), [.t 23, .t 24], (some 25), none⟩,
      ⟨.mv, [.t 25], (some 6), none⟩])
    .ret)
    .skip))
  (.seq (.seq (.ops [⟨.mv, [.t 8], (some 26), none⟩,
    ⟨.mv, [.t 7], (some 27), none⟩,
    ⟨(.bin .add), [.t 26, .t 27], (some 28), none⟩,
    ⟨.mv, [.t 0], (some 29), none⟩,
    ⟨.cap, [.t 29], (some 30), none⟩,
    ⟨(.bin .gtr), [.t 28, .t 30], (some 31), none⟩])
  (.ite (.t 31) (.seq (.ops [⟨.mv, [.t 0], (some 32), none⟩,
      ⟨.mv, [.t 1], (some 33), none⟩,
      ⟨(.slv 11 false true), [.t 32, .t 33], (some 34), none⟩,
      ⟨.mv, [.t 8], (some 35), none⟩,
      ⟨.mv, [.t 7], (some 36), none⟩,
      ⟨(.bin .add), [.t 35, .t 36], (some 37), none⟩,
      ⟨.mv, [.t 1], (some 38), none⟩,
      ⟨(.bin .sub), [.t 37, .t 38], (some 39), none⟩,
      ⟨(.apz 11 64 [.i .i64 0, .i .u32 0, .s [], .i .u32 0, .i .u32 0, .i .u32 0, .i .u32 0, .i .u32 0, .i .u32 0, .i .u32 0, .i .u32 0]), [.t 34, .t 39], (some 40), none⟩,
      ⟨.mv, [.t 40], (some 9), none⟩])
    (.seq (.ops [⟨.mv, [.t 9], (some 41), none⟩,
      ⟨.mv, [.t 1], (some 42), none⟩,
      ⟨(.slv 11 true false), [.t 41, .t 42], (some 43), none⟩,
      ⟨.mv, [.t 2], (some 44), none⟩,
      ⟨(.cpy 11), [.t 43, .t 44], (some 45), none⟩])
    (.seq (.any [] [(⟨.mv, [.t 9], (some 46), none⟩, 0, []),
      (⟨.mv, [.t 1], (some 47), none⟩, 0, []),
      (⟨.mv, [.t 7], (some 48), none⟩, 0, []),
      (⟨(.bin .add), [.t 47, .t 48], (some 49), none⟩, 0, []),
      (⟨(.slv 11 true false), [.t 46, .t 49], (some 50), none⟩, 1, []),
      (⟨.mv, [.t 0], (some 51), none⟩, 0, []),
      (⟨.mv, [.t 1], (some 52), none⟩, 0, []),
      (⟨(.slv 11 true false), [.t 51, .t 52], (some 53), none⟩, 1, []),
      (⟨(.cpy 11), [.t 50, .t 53], (some 54), none⟩, 2, [])])
    (.seq (.ops [⟨.mv, [.t 9], (some 55), none⟩,
      ⟨.mv, [.t 55], (some 6), none⟩])
    .ret))))
    .skip))
  (.seq (.ops [⟨.mv, [.t 0], (some 56), none⟩,
    ⟨.mv, [.t 8], (some 57), none⟩,
    ⟨.mv, [.t 7], (some 58), none⟩,
    ⟨(.bin .add), [.t 57, .t 58], (some 59), none⟩,
    ⟨(.slx 11), [.t 56, .t 59], (some 60), none⟩,
    ⟨.mv, [.t 60], (some 0), none⟩])
  (.seq (.seq (.ops [⟨.mv, [.t 2], (some 61), none⟩,
    ⟨.mv, [.t 0], (some 62), none⟩,
    ⟨.mv, [.t 1], (some 63), none⟩,
    ⟨.mv, [.t 7], (some 64), none⟩,
    ⟨(.bin .add), [.t 63, .t 64], (some 65), none⟩,
    ⟨(.slv 11 true false), [.t 62, .t 65], (some 66), none⟩,
    ⟨(.call 114), [.t 61, .t 66], (some 67), none⟩,
    ⟨(.un .not), [.t 67], (some 68), none⟩])
  (.ite (.t 68) (.seq (.any [] [(⟨.mv, [.t 0], (some 69), none⟩, 0, []),
      (⟨.mv, [.t 1], (some 70), none⟩, 0, []),
      (⟨.mv, [.t 7], (some 71), none⟩, 0, []),
      (⟨(.bin .add), [.t 70, .t 71], (some 72), none⟩, 0, []),
      (⟨(.slv 11 true false), [.t 69, .t 72], (some 73), none⟩, 1, []),
      (⟨.mv, [.t 0], (some 74), none⟩, 0, []),
      (⟨.mv, [.t 1], (some 75), none⟩, 0, []),
      (⟨(.slv 11 true false), [.t 74, .t 75], (some 76), none⟩, 1, []),
      (⟨(.cpy 11), [.t 73, .t 76], (some 77), none⟩, 2, [])])
    (.seq (.ops [⟨.mv, [.t 0], (some 78), none⟩,
      ⟨.mv, [.t 1], (some 79), none⟩,
      ⟨(.slv 11 true false), [.t 78, .t 79], (some 80), none⟩,
      ⟨.mv, [.t 2], (some 81), none⟩,
      ⟨(.cpy 11), [.t 80, .t 81], (some 82), none⟩])
    (.seq (.ops [⟨.mv, [.t 0], (some 83), none⟩,
      ⟨.mv, [.t 83], (some 6), none⟩])
    .ret)))
    .skip))
  (.seq (.ops [⟨.mv, [.t 0], (some 84), none⟩,
    ⟨.mv, [.t 8], (some 85), none⟩,
    ⟨(.slv 11 true false), [.t 84, .t 85], (some 86), none⟩,
    ⟨.mv, [.t 2], (some 87), none⟩,
    ⟨(.cpy 11), [.t 86, .t 87], (some 88), none⟩])
  (.seq (.ops [⟨.mv, [.t 0], (some 89), none⟩,
    ⟨.mv, [.t 1], (some 90), none⟩,
    ⟨(.slc 11 true false false), [.t 89, .t 90], (some 91), none⟩,
    ⟨.mv, [.t 7], (some 92), none⟩,
    ⟨(.call 115), [.t 91, .t 92], (some 93), none⟩])
  (.seq (.ops [⟨.mv, [.t 0], (some 94), none⟩,
    ⟨.mv, [.t 94], (some 6), none⟩])
  .ret))))))))))))
theorem fn65 : fnOf Try.prog 65 = some (95, [.t 6], ir65) := by kernel_rfl
def ir66 : C :=
  (.seq (.ops [⟨.box, [.t 1], (some 3), none⟩,
    ⟨.mv, [.c (.pv (.b false))], (some 4), none⟩])
  (.seq (.seq (.ops [⟨.mv, [.c (.pv (.i .i64 0))], (some 5), none⟩])
  (.block 0 (.loop (.seq (.seq (.ops [⟨.mv, [.t 5], (some 6), none⟩,
        ⟨.mv, [.t 0], (some 7), none⟩,
        ⟨.len, [.t 7], (some 8), none⟩,
        ⟨(.bin .lss), [.t 6, .t 8], (some 9), none⟩])
      (.ite (.t 9) .skip
        (.exit 0)))
      (.seq (.block 1 (.seq (.any [] [(⟨.mv, [.t 0], (some 12), none⟩, 0, []),
          (⟨.mv, [.t 5], (some 13), none⟩, 0, []),
          (⟨(.iaS 11), [.t 12, .t 13], (some 14), none⟩, 1, []),
          (⟨(.fa 0), [.t 14], (some 15), none⟩, 0, []),
          (⟨(.ld 2 true), [.t 15], (some 16), none⟩, 1, []),
          (⟨(.ld 2 true), [.t 3], (some 17), none⟩, 1, []),
          (⟨(.eqv false [.int .i64, .int .u32]), [.t 16, .t 17], (some 18), none⟩, 0, [])])
        (.ite (.t 18) (.seq (.ops [⟨.mv, [.c (.pv (.b true))], (some 4), none⟩])
          .ret)
          .skip)))
      (.ops [⟨.mv, [.t 5], (some 10), none⟩,
        ⟨(.bin .add), [.t 10, .c (.pv (.i .i64 1))], (some 11), none⟩,
        ⟨.mv, [.t 11], (some 5), none⟩]))))))
  (.seq (.ops [⟨.mv, [.c (.pv (.b false))], (some 4), none⟩])
  .ret)))
theorem fn66 : fnOf Try.prog 66 = some (19, [.t 4], ir66) := by kernel_rfl
def ir67 : C :=
  (.seq (.ops [⟨.box, [.t 0], (some 2), none⟩,
    ⟨.box, [.t 1], (some 3), none⟩,
    ⟨.mv, [.c (.pv (.b false))], (some 4), none⟩])
  (.seq (.ops [⟨(.fa 1), [.t 2], (some 5), none⟩,
    ⟨(.ld 1 false), [.t 5], (some 6), none⟩,
    ⟨(.fa 1), [.t 3], (some 7), none⟩,
    ⟨(.ld 1 false), [.t 7], (some 8), none⟩,
    ⟨(.bin .lss), [.t 6, .t 8], (some 9), none⟩,
    ⟨.mv, [.t 9], (some 10), none⟩,
    ⟨(.fa 1), [.t 2], (some 11), (some (10, false))⟩,
    ⟨(.ld 1 false), [.t 11], (some 12), (some (10, false))⟩,
    ⟨(.fa 1), [.t 3], (some 13), (some (10, false))⟩,
    ⟨(.ld 1 false), [.t 13], (some 14), (some (10, false))⟩,
    ⟨(.bin .eql), [.t 12, .t 14], (some 15), (some (10, false))⟩,
    ⟨.mv, [.t 15], (some 16), (some (10, false))⟩,
    ⟨(.fa 0), [.t 2], (some 17), (some (16, true))⟩,
    ⟨(.ld 1 false), [.t 17], (some 18), (some (16, true))⟩,
    ⟨(.fa 0), [.t 3], (some 19), (some (16, true))⟩,
    ⟨(.ld 1 false), [.t 19], (some 20), (some (16, true))⟩,
    ⟨(.bin .lss), [.t 18, .t 20], (some 21), (some (16, true))⟩,
    ⟨.pick, [.t 16, .t 21, .c (.pv (.b false))], (some 22), (some (10, false))⟩,
    ⟨.pick, [.t 10, .c (.pv (.b true)), .t 22], (some 23), none⟩,
    ⟨.mv, [.t 23], (some 4), none⟩])
  .ret))
theorem fn67 : fnOf Try.prog 67 = some (24, [.t 4], ir67) := by kernel_rfl
def ir68 : C :=
  (.seq (.ops [⟨.box, [.t 0], (some 2), none⟩,
    ⟨.box, [.t 1], (some 3), none⟩,
    ⟨(.new (.vec 8 (List.replicate 8 (.i .u32 0)))), [], (some 4), none⟩])
  (.seq (.any [7, 8] [(⟨(.ld 8 true), [.t 2], (some 5), none⟩, 1, [7, 8]),
    (⟨(.ld 2 true), [.t 3], (some 6), none⟩, 1, [7, 8]),
    (⟨(.call 117), [.t 6], (some 7), none⟩, 1, [7, 8]),
    (⟨(.call 116), [.t 5, .t 7], (some 8), none⟩, 1, [8]),
    (⟨(.sto 8), [.t 4, .t 8], none, none⟩, 2, [])])
  .ret))
theorem fn68 : fnOf Try.prog 68 = some (9, [.c 4 8 true], ir68) := by kernel_rfl
def ir69 : C :=
  (.seq (.ops [⟨.box, [.t 0], (some 1), none⟩,
    ⟨.mv, [.c (.pv (.b false))], (some 2), none⟩])
  (.seq (.seq (.ops [⟨.mv, [.c (.pv (.i .i64 0))], (some 3), none⟩])
  (.block 0 (.loop (.seq (.seq (.ops [⟨.mv, [.t 3], (some 4), none⟩,
        ⟨(.bin .lss), [.t 4, .c (.pv (.i .i64 8))], (some 5), none⟩])
      (.ite (.t 5) .skip
        (.exit 0)))
      (.seq (.block 1 (.seq (.ops [⟨.mv, [.t 3], (some 8), none⟩,
          ⟨(.fa 7), [.t 1], (some 9), none⟩,
          ⟨(.iaA 8 1), [.t 9, .t 8], (some 10), none⟩,
          ⟨(.ld 1 false), [.t 10], (some 11), none⟩,
          ⟨(.bin .neq), [.t 11, .c (.pv (.i .u32 0))], (some 12), none⟩])
        (.ite (.t 12) (.seq (.ops [⟨.mv, [.c (.pv (.b false))], (some 2), none⟩])
          .ret)
          .skip)))
      (.ops [⟨.mv, [.t 3], (some 6), none⟩,
        ⟨(.bin .add), [.t 6, .c (.pv (.i .i64 1))], (some 7), none⟩,
        ⟨.mv, [.t 7], (some 3), none⟩]))))))
  (.seq (.ops [⟨.mv, [.c (.pv (.b true))], (some 2), none⟩])
  .ret)))
theorem fn69 : fnOf Try.prog 69 = some (13, [.t 2], ir69) := by kernel_rfl
def ir70 : C :=
  (.seq (.ops [⟨.mv, [.c (.pv (.sl true 0 []))], (some 4), none⟩])
  (.seq (.ops [⟨.mv, [.t 0], (some 8), none⟩,
    ⟨.mv, [.t 1], (some 9), none⟩,
    ⟨(.call 118), [.t 8, .t 9], (some 10), none⟩,
    ⟨.mv, [.t 10], (some 5), none⟩])
  (.seq (.seq (.ops [⟨.mv, [.t 5], (some 11), none⟩,
    ⟨(.bin .eql), [.t 11, .c (.pv (.i .i64 (-1)))], (some 12), none⟩])
  (.ite (.t 12) (.seq (.ops [⟨.mv, [.t 0], (some 13), none⟩,
      ⟨.mv, [.t 13], (some 4), none⟩])
    .ret)
    .skip))
  (.seq (.seq (.ops [⟨.mv, [.t 5], (some 14), none⟩,
    ⟨(.bin .add), [.t 14, .c (.pv (.i .i64 1))], (some 15), none⟩,
    ⟨.mv, [.t 15], (some 6), none⟩])
  (.block 0 (.loop (.seq (.seq (.ops [⟨.mv, [.t 6], (some 16), none⟩,
        ⟨.mv, [.t 0], (some 17), none⟩,
        ⟨.len, [.t 17], (some 18), none⟩,
        ⟨(.bin .lss), [.t 16, .t 18], (some 19), none⟩])
      (.ite (.t 19) .skip
        (.exit 0)))
      (.seq (.block 1 (.seq (.ops [⟨.mv, [.t 0], (some 22), none⟩,
          ⟨.mv, [.t 6], (some 23), none⟩,
          ⟨(.iaS 11), [.t 22, .t 23], (some 24), none⟩,
          ⟨(.ld 11 true), [.t 24], (some 25), none⟩,
          ⟨(.new (.agg [.pv (.i .i64 0), .pv (.i .u32 0), .pv (.s []), .vec 8 (List.replicate 8 (.i .u32 0))])), [], (some 7), none⟩,
          ⟨(.sto 11), [.t 7, .t 25], none, none⟩])
        (.seq (.ops [⟨.mv, [.t 1], (some 26), none⟩,
          ⟨(.ld 11 true), [.t 7], (some 27), none⟩,
          ⟨.yv, [.t 26, .t 27], (some 28), none⟩,
          ⟨(.un .not), [.t 28], (some 29), none⟩])
        (.ite (.t 29) (.seq (.ops [⟨.mv, [.t 0], (some 30), none⟩,
            ⟨.mv, [.t 5], (some 31), none⟩,
            ⟨(.ld 11 true), [.t 7], (some 32), none⟩,
            ⟨(.iaS 11), [.t 30, .t 31], (some 33), none⟩,
            ⟨(.sto 11), [.t 33, .t 32], none, none⟩])
          (.ops [⟨.mv, [.t 5], (some 34), none⟩,
            ⟨(.bin .add), [.t 34, .c (.pv (.i .i64 1))], (some 35), none⟩,
            ⟨.mv, [.t 35], (some 5), none⟩]))
          .skip))))
      (.ops [⟨.mv, [.t 6], (some 20), none⟩,
        ⟨(.bin .add), [.t 20, .c (.pv (.i .i64 1))], (some 21), none⟩,
        ⟨.mv, [.t 21], (some 6), none⟩]))))))
  (.seq (.ops [⟨.mv, [.t 0], (some 36), none⟩,
    ⟨.mv, [.t 5], (some 37), none⟩,
    ⟨(.slv 11 true false), [.t 36, .t 37], (some 38), none⟩,
    ⟨(.clr 11 [.i .i64 0, .i .u32 0, .s [], .i .u32 0, .i .u32 0, .i .u32 0, .i .u32 0, .i .u32 0, .i .u32 0, .i .u32 0, .i .u32 0]), [.t 38], none, none⟩])
  (.seq (.ops [⟨.mv, [.t 0], (some 39), none⟩,
    ⟨.mv, [.t 5], (some 40), none⟩,
    ⟨(.slc 11 false true false), [.t 39, .t 40], (some 41), none⟩,
    ⟨.mv, [.t 41], (some 4), none⟩])
  .ret))))))
theorem fn70 : fnOf Try.prog 70 = some (42, [.t 4], ir70) := by kernel_rfl
def ir71 : C :=
  (.seq (.ops [⟨.box, [.t 0], (some 2), none⟩,
    ⟨.mv, [.c (.pv (.b false))], (some 3), none⟩])
  (.seq (.ops [⟨(.fa 3), [.t 2], (some 4), none⟩,
    ⟨(.ld 8 true), [.t 4], (some 5), none⟩,
    ⟨(.ld 8 true), [.t 1], (some 6), none⟩,
    ⟨(.call 72), [.t 5, .t 6], (some 7), none⟩,
    ⟨.mv, [.t 7], (some 3), none⟩])
  .ret))
theorem fn71 : fnOf Try.prog 71 = some (8, [.t 3], ir71) := by kernel_rfl
def ir72 : C :=
  (.seq (.ops [⟨.box, [.t 0], (some 2), none⟩,
    ⟨.box, [.t 1], (some 3), none⟩,
    ⟨.mv, [.c (.pv (.b false))], (some 4), none⟩])
  (.seq (.seq (.ops [⟨(.ld 8 true), [.t 2], (some 7), none⟩,
    ⟨.mv, [.c (.pv (.i .i64 0))], (some 8), none⟩])
  (.block 0 (.loop (.seq (.ops [⟨(.bin .lss), [.t 8, .c (.pv (.i .i64 8))], (some 9), none⟩])
      (.seq (.ite (.t 9) .skip
        (.exit 0))
      (.seq (.block 1 (.seq (.ops [⟨.mv, [.t 8], (some 10), none⟩,
          ⟨(.ixA 8 1 false), [.t 7, .t 8], (some 11), none⟩,
          ⟨.mv, [.t 10], (some 5), none⟩,
          ⟨.mv, [.t 11], (some 6), none⟩])
        (.seq (.ops [⟨.mv, [.t 6], (some 12), none⟩,
          ⟨(.bin .gtr), [.t 12, .c (.pv (.i .u32 0))], (some 13), none⟩,
          ⟨.mv, [.t 13], (some 14), none⟩,
          ⟨.mv, [.t 6], (some 15), (some (14, true))⟩,
          ⟨.mv, [.t 5], (some 16), (some (14, true))⟩,
          ⟨(.iaA 8 1), [.t 3, .t 16], (some 17), (some (14, true))⟩,
          ⟨(.ld 1 false), [.t 17], (some 18), (some (14, true))⟩,
          ⟨(.bin .leq), [.t 15, .t 18], (some 19), (some (14, true))⟩,
          ⟨.pick, [.t 14, .t 19, .c (.pv (.b false))], (some 20), none⟩])
        (.ite (.t 20) (.seq (.ops [⟨.mv, [.c (.pv (.b true))], (some 4), none⟩])
          .ret)
          .skip))))
      (.ops [⟨(.bin .add), [.t 8, .c (.pv (.i .i64 1))], (some 21), none⟩,
        ⟨.mv, [.t 21], (some 8), none⟩])))))))
  (.seq (.ops [⟨.mv, [.c (.pv (.b false))], (some 4), none⟩])
  .ret)))
theorem fn72 : fnOf Try.prog 72 = some (22, [.t 4], ir72) := by kernel_rfl
def ir73 : C :=
  (.seq (.ops [⟨.box, [.t 0], (some 2), none⟩,
    ⟨.box, [.t 1], (some 3), none⟩,
    ⟨.mv, [.c (.pv (.b false))], (some 4), none⟩])
  (.seq (.seq (.ops [⟨.mv, [.c (.pv (.i .i64 0))], (some 5), none⟩])
  (.block 0 (.loop (.seq (.seq (.ops [⟨.mv, [.t 5], (some 6), none⟩,
        ⟨(.bin .lss), [.t 6, .c (.pv (.i .i64 8))], (some 7), none⟩])
      (.ite (.t 7) .skip
        (.exit 0)))
      (.seq (.block 1 (.seq (.any [] [(⟨.mv, [.t 5], (some 10), none⟩, 0, []),
          (⟨(.iaA 8 1), [.t 2, .t 10], (some 11), none⟩, 0, []),
          (⟨(.ld 1 false), [.t 11], (some 12), none⟩, 1, []),
          (⟨(.bin .geq), [.t 12, .c (.pv (.i .u32 1))], (some 13), none⟩, 0, []),
          (⟨.mv, [.t 13], (some 14), none⟩, 0, []),
          (⟨.mv, [.t 5], (some 15), (some (14, true))⟩, 0, []),
          (⟨(.iaA 8 1), [.t 2, .t 15], (some 16), (some (14, true))⟩, 0, []),
          (⟨(.ld 1 false), [.t 16], (some 17), (some (14, true))⟩, 1, []),
          (⟨.mv, [.t 5], (some 18), (some (14, true))⟩, 0, []),
          (⟨(.iaA 8 1), [.t 3, .t 18], (some 19), (some (14, true))⟩, 0, []),
          (⟨(.ld 1 false), [.t 19], (some 20), (some (14, true))⟩, 1, []),
          (⟨(.bin .leq), [.t 17, .t 20], (some 21), (some (14, true))⟩, 0, []),
          (⟨.pick, [.t 14, .t 21, .c (.pv (.b false))], (some 22), none⟩, 0, [])])
        (.ite (.t 22) (.seq (.ops [⟨.mv, [.c (.pv (.b true))], (some 4), none⟩])
          .ret)
          .skip)))
      (.ops [⟨.mv, [.t 5], (some 8), none⟩,
        ⟨(.bin .add), [.t 8, .c (.pv (.i .i64 1))], (some 9), none⟩,
        ⟨.mv, [.t 9], (some 5), none⟩]))))))
  (.seq (.ops [⟨.mv, [.c (.pv (.b false))], (some 4), none⟩])
  .ret)))
theorem fn73 : fnOf Try.prog 73 = some (23, [.t 4], ir73) := by kernel_rfl
def ir74 : C :=
  (.seq (.ops [⟨.mv, [.c (.pv (.b false))], (some 4), none⟩])
  (.seq (.ops [⟨.mv, [.t 0], (some 5), none⟩,
    ⟨.mv, [.t 1], (some 6), none⟩,
    ⟨(.call 118), [.t 5, .t 6], (some 7), none⟩,
    ⟨(.bin .geq), [.t 7, .c (.pv (.i .i64 0))], (some 8), none⟩,
    ⟨.mv, [.t 8], (some 4), none⟩])
  .ret))
theorem fn74 : fnOf Try.prog 74 = some (9, [.t 4], ir74) := by kernel_rfl
def ir75 : C :=
  (.seq (.ops [⟨.box, [.t 0], (some 2), none⟩,
    ⟨.mv, [.c (.pv (.b false))], (some 3), none⟩])
  (.seq (.ops [⟨(.ld 8 true), [.t 1], (some 4), none⟩,
    ⟨(.fa 0), [.t 2], (some 5), none⟩,
    ⟨(.ld 2 true), [.t 5], (some 6), none⟩,
    ⟨(.call 76), [.t 4, .t 6], (some 7), none⟩,
    ⟨(.un .not), [.t 7], (some 8), none⟩,
    ⟨.mv, [.t 8], (some 3), none⟩])
  .ret))
theorem fn75 : fnOf Try.prog 75 = some (9, [.t 3], ir75) := by kernel_rfl
def ir76 : C :=
  (.seq (.ops [⟨.box, [.t 0], (some 2), none⟩,
    ⟨.box, [.t 1], (some 3), none⟩,
    ⟨.mv, [.c (.pv (.b false))], (some 4), none⟩])
  (.seq (.any [14] [(⟨(.fa 1), [.t 3], (some 5), none⟩, 0, [14]),
    (⟨(.ld 1 false), [.t 5], (some 6), none⟩, 1, [14]),
    (⟨(.bin .geq), [.t 6, .c (.pv (.i .u32 1))], (some 7), none⟩, 0, [14]),
    (⟨.mv, [.t 7], (some 8), none⟩, 0, [14]),
    (⟨(.fa 1), [.t 3], (some 9), (some (8, true))⟩, 0, [14]),
    (⟨(.ld 1 false), [.t 9], (some 10), (some (8, true))⟩, 1, [14]),
    (⟨(.ld 8 true), [.t 2], (some 11), (some (8, true))⟩, 1, [14]),
    (⟨(.fa 0), [.t 3], (some 12), (some (8, true))⟩, 0, [14]),
    (⟨(.ld 1 false), [.t 12], (some 13), (some (8, true))⟩, 1, [14]),
    (⟨(.call 119), [.t 11, .t 13], (some 14), (some (8, true))⟩, 1, [14]),
    (⟨(.bin .leq), [.t 10, .t 14], (some 15), (some (8, true))⟩, 0, []),
    (⟨.pick, [.t 8, .t 15, .c (.pv (.b false))], (some 16), none⟩, 0, [14]),
    (⟨.mv, [.t 16], (some 4), none⟩, 0, [])])
  .ret))
theorem fn76 : fnOf Try.prog 76 = some (17, [.t 4], ir76) := by kernel_rfl
def ir77 : C :=
  (.seq (.ops [⟨.box, [.t 0], (some 2), none⟩,
    ⟨.box, [.t 1], (some 3), none⟩,
    ⟨.mv, [.c (.pv (.b false))], (some 4), none⟩])
  (.seq (.any [12] [(⟨(.fa 1), [.t 3], (some 5), none⟩, 0, [12]),
    (⟨(.ld 1 false), [.t 5], (some 6), none⟩, 1, [12]),
    (⟨(.bin .gtr), [.t 6, .c (.pv (.i .u32 0))], (some 7), none⟩, 0, [12]),
    (⟨.mv, [.t 7], (some 8), none⟩, 0, [12]),
    (⟨(.ld 8 true), [.t 2], (some 9), (some (8, true))⟩, 1, [12]),
    (⟨(.fa 0), [.t 3], (some 10), (some (8, true))⟩, 0, [12]),
    (⟨(.ld 1 false), [.t 10], (some 11), (some (8, true))⟩, 1, [12]),
    (⟨(.call 82), [.t 9, .t 11], (some 12), (some (8, true))⟩, 1, [12]),
    (⟨(.fa 1), [.t 3], (some 13), (some (8, true))⟩, 0, [12]),
    (⟨(.ld 1 false), [.t 13], (some 14), (some (8, true))⟩, 1, [12]),
    (⟨(.bin .geq), [.t 12, .t 14], (some 15), (some (8, true))⟩, 0, []),
    (⟨.pick, [.t 8, .t 15, .c (.pv (.b false))], (some 16), none⟩, 0, [12]),
    (⟨.mv, [.t 16], (some 4), none⟩, 0, [])])
  .ret))
theorem fn77 : fnOf Try.prog 77 = some (17, [.t 4], ir77) := by kernel_rfl
def ir82 : C :=
  (.seq (.ops [⟨.box, [.t 0], (some 2), none⟩,
    ⟨.mv, [.c (.pv (.i .u32 0))], (some 4), none⟩])
  (.seq (.seq (.ops [⟨.mv, [.c (.pv (.i .i64 0))], (some 5), none⟩])
  (.block 0 (.loop (.seq (.seq (.ops [⟨.mv, [.t 5], (some 6), none⟩,
        ⟨(.bin .lss), [.t 6, .c (.pv (.i .i64 8))], (some 7), none⟩])
      (.ite (.t 7) .skip
        (.exit 0)))
      (.seq (.block 1 (.seq (.ops [⟨.mv, [.t 5], (some 10), none⟩,
          ⟨(.bin .add), [.t 10, .c (.pv (.i .i64 1))], (some 11), none⟩,
          ⟨.mv, [.t 1], (some 12), none⟩,
          ⟨(.bin .eql), [.t 11, .t 12], (some 13), none⟩])
        (.ite (.t 13) (.seq (.ops [⟨.mv, [.t 5], (some 14), none⟩,
            ⟨(.iaA 8 1), [.t 2, .t 14], (some 15), none⟩,
            ⟨(.ld 1 false), [.t 15], (some 16), none⟩,
            ⟨.mv, [.t 16], (some 4), none⟩])
          .ret)
          .skip)))
      (.ops [⟨.mv, [.t 5], (some 8), none⟩,
        ⟨(.bin .add), [.t 8, .c (.pv (.i .i64 1))], (some 9), none⟩,
        ⟨.mv, [.t 9], (some 5), none⟩]))))))
  (.seq (.ops [⟨.mv, [.c (.pv (.i .u32 0))], (some 4), none⟩])
  .ret)))
theorem fn82 : fnOf Try.prog 82 = some (17, [.t 4], ir82) := by kernel_rfl
def ir113 : C :=
  (.seq (.ops [⟨.box, [.t 0], (some 2), none⟩,
    ⟨.box, [.t 1], (some 3), none⟩,
    ⟨.mv, [.c (.pv (.b false))], (some 4), none⟩])
  (.seq (.seq (.ops [⟨(.fa 1), [.t 2], (some 5), none⟩,
    ⟨(.ld 1 false), [.t 5], (some 6), none⟩,
    ⟨(.fa 1), [.t 3], (some 7), none⟩,
    ⟨(.ld 1 false), [.t 7], (some 8), none⟩,
    ⟨(.bin .neq), [.t 6, .t 8], (some 9), none⟩])
  (.ite (.t 9) (.seq (.ops [⟨(.fa 1), [.t 2], (some 10), none⟩,
      ⟨(.ld 1 false), [.t 10], (some 11), none⟩,
      ⟨(.fa 1), [.t 3], (some 12), none⟩,
      ⟨(.ld 1 false), [.t 12], (some 13), none⟩,
      ⟨(.bin .lss), [.t 11, .t 13], (some 14), none⟩,
      ⟨.mv, [.t 14], (some 4), none⟩])
    .ret)
    .skip))
  (.seq (.ops [⟨(.fa 0), [.t 2], (some 15), none⟩,
    ⟨(.ld 1 false), [.t 15], (some 16), none⟩,
    ⟨(.fa 0), [.t 3], (some 17), none⟩,
    ⟨(.ld 1 false), [.t 17], (some 18), none⟩,
    ⟨(.bin .lss), [.t 16, .t 18], (some 19), none⟩,
    ⟨.mv, [.t 19], (some 4), none⟩])
  .ret)))
theorem fn113 : fnOf Try.prog 113 = some (20, [.t 4], ir113) := by kernel_rfl
def ir116 : C :=
  (.seq (.ops [⟨.box, [.t 0], (some 2), none⟩,
    ⟨.box, [.t 1], (some 3), none⟩,
    ⟨(.new (.vec 8 (List.replicate 8 (.i .u32 0)))), [], (some 4), none⟩])
  (.seq (.ops [⟨(.bldV 8 1), [.c (.pv (.i .u32 0)), .c (.pv (.i .u32 0)), .c (.pv (.i .u32 0)), .c (.pv (.i .u32 0)), .c (.pv (.i .u32 0)), .c (.pv (.i .u32 0)), .c (.pv (.i .u32 0)), .c (.pv (.i .u32 0))], (some 7), none⟩,
    ⟨(.new (.vec 8 (List.replicate 8 (.i .u32 0)))), [], (some 5), none⟩,
    ⟨(.sto 8), [.t 5, .t 7], none, none⟩])
  (.seq (.seq (.ops [⟨.mv, [.c (.pv (.i .i64 0))], (some 6), none⟩])
  (.block 0 (.loop (.seq (.seq (.ops [⟨.mv, [.t 6], (some 8), none⟩,
        ⟨(.bin .lss), [.t 8, .c (.pv (.i .i64 8))], (some 9), none⟩])
      (.ite (.t 9) .skip
        (.exit 0)))
      (.seq (.block 1 (.seq (.ops [⟨.mv, [.t 6], (some 12), none⟩,
          ⟨.mv, [.t 6], (some 13), none⟩,
          ⟨(.iaA 8 1), [.t 2, .t 13], (some 14), none⟩,
          ⟨(.ld 1 false), [.t 14], (some 15), none⟩,
          ⟨(.iaA 8 1), [.t 5, .t 12], (some 16), none⟩,
          ⟨(.sto 1), [.t 16, .t 15], none, none⟩])
        (.seq (.any [] [(⟨.mv, [.t 6], (some 17), none⟩, 0, []),
          (⟨(.iaA 8 1), [.t 3, .t 17], (some 18), none⟩, 0, []),
          (⟨(.ld 1 false), [.t 18], (some 19), none⟩, 1, []),
          (⟨.mv, [.t 6], (some 20), none⟩, 0, []),
          (⟨(.iaA 8 1), [.t 2, .t 20], (some 21), none⟩, 0, []),
          (⟨(.ld 1 false), [.t 21], (some 22), none⟩, 1, []),
          (⟨(.bin .gtr), [.t 19, .t 22], (some 23), none⟩, 0, [])])
        (.ite (.t 23) (.ops [⟨.mv, [.t 6], (some 24), none⟩,
            ⟨.mv, [.t 6], (some 25), none⟩,
            ⟨(.iaA 8 1), [.t 3, .t 25], (some 26), none⟩,
            ⟨(.ld 1 false), [.t 26], (some 27), none⟩,
            ⟨(.iaA 8 1), [.t 5, .t 24], (some 28), none⟩,
            ⟨(.sto 1), [.t 28, .t 27], none, none⟩])
          .skip))))
      (.ops [⟨.mv, [.t 6], (some 10), none⟩,
        ⟨(.bin .add), [.t 10, .c (.pv (.i .i64 1))], (some 11), none⟩,
        ⟨.mv, [.t 11], (some 6), none⟩]))))))
  (.seq (.ops [⟨(.ld 8 true), [.t 5], (some 29), none⟩,
    ⟨(.sto 8), [.t 4, .t 29], none, none⟩])
  .ret))))
theorem fn116 : fnOf Try.prog 116 = some (30, [.c 4 8 true], ir116) := by kernel_rfl
def ir117 : C :=
  (.seq (.ops [⟨.box, [.t 0], (some 1), none⟩,
    ⟨(.new (.vec 8 (List.replicate 8 (.i .u32 0)))), [], (some 2), none⟩])
  (.seq (.ops [⟨(.bldV 8 1), [.c (.pv (.i .u32 0)), .c (.pv (.i .u32 0)), .c (.pv (.i .u32 0)), .c (.pv (.i .u32 0)), .c (.pv (.i .u32 0)), .c (.pv (.i .u32 0)), .c (.pv (.i .u32 0)), .c (.pv (.i .u32 0))], (some 5), none⟩,
    ⟨(.new (.vec 8 (List.replicate 8 (.i .u32 0)))), [], (some 3), none⟩,
    ⟨(.sto 8), [.t 3, .t 5], none, none⟩])
  (.seq (.seq (.ops [⟨.mv, [.c (.pv (.i .i64 0))], (some 4), none⟩])
  (.block 0 (.loop (.seq (.seq (.ops [⟨.mv, [.t 4], (some 6), none⟩,
        ⟨(.bin .lss), [.t 6, .c (.pv (.i .i64 8))], (some 7), none⟩])
      (.ite (.t 7) .skip
        (.exit 0)))
      (.seq (.block 1 (.seq (.ops [⟨.mv, [.t 4], (some 10), none⟩,
          ⟨(.bin .add), [.t 10, .c (.pv (.i .i64 1))], (some 11), none⟩,
          ⟨(.fa 0), [.t 1], (some 12), none⟩,
          ⟨(.ld 1 false), [.t 12], (some 13), none⟩,
          ⟨(.bin .eql), [.t 11, .t 13], (some 14), none⟩])
        (.ite (.t 14) (.ops [⟨.mv, [.t 4], (some 15), none⟩,
            ⟨(.fa 1), [.t 1], (some 16), none⟩,
            ⟨(.ld 1 false), [.t 16], (some 17), none⟩,
            ⟨(.iaA 8 1), [.t 3, .t 15], (some 18), none⟩,
            ⟨(.sto 1), [.t 18, .t 17], none, none⟩])
          .skip)))
      (.ops [⟨.mv, [.t 4], (some 8), none⟩,
        ⟨(.bin .add), [.t 8, .c (.pv (.i .i64 1))], (some 9), none⟩,
        ⟨.mv, [.t 9], (some 4), none⟩]))))))
  (.seq (.ops [⟨(.ld 8 true), [.t 3], (some 19), none⟩,
    ⟨(.sto 8), [.t 2, .t 19], none, none⟩])
  .ret))))
theorem fn117 : fnOf Try.prog 117 = some (20, [.c 2 8 true], ir117) := by kernel_rfl
def ir118 : C :=
  (.seq (.ops [⟨.mv, [.c (.pv (.i .i64 0))], (some 4), none⟩])
  (.seq (.seq (.ops [⟨.mv, [.t 0], (some 6), none⟩,
    ⟨.len, [.t 6], (some 7), none⟩,
    ⟨.mv, [.c (.pv (.i .i64 0))], (some 8), none⟩])
  (.block 0 (.loop (.seq (.ops [⟨(.bin .lss), [.t 8, .t 7], (some 9), none⟩])
      (.seq (.ite (.t 9) .skip
        (.exit 0))
      (.seq (.block 1 (.seq (.ops [⟨.mv, [.t 8], (some 10), none⟩,
          ⟨.mv, [.t 10], (some 5), none⟩])
        (.seq (.ops [⟨.mv, [.t 1], (some 11), none⟩,
          ⟨.mv, [.t 0], (some 12), none⟩,
          ⟨.mv, [.t 5], (some 13), none⟩,
          ⟨(.iaS 11), [.t 12, .t 13], (some 14), none⟩,
          ⟨(.ld 11 true), [.t 14], (some 15), none⟩,
          ⟨.yv, [.t 11, .t 15], (some 16), none⟩])
        (.ite (.t 16) (.seq (.ops [⟨.mv, [.t 5], (some 17), none⟩,
            ⟨.mv, [.t 17], (some 4), none⟩])
          .ret)
          .skip))))
      (.ops [⟨(.bin .add), [.t 8, .c (.pv (.i .i64 1))], (some 18), none⟩,
        ⟨.mv, [.t 18], (some 8), none⟩])))))))
  (.seq (.ops [⟨.mv, [.c (.pv (.i .i64 (-1)))], (some 4), none⟩])
  .ret)))
theorem fn118 : fnOf Try.prog 118 = some (19, [.t 4], ir118) := by kernel_rfl
def ir119 : C :=
  (.seq (.ops [⟨.box, [.t 0], (some 2), none⟩,
    ⟨.mv, [.c (.pv (.i .u32 0))], (some 4), none⟩])
  (.seq (.seq (.ops [⟨.mv, [.t 1], (some 5), none⟩,
    ⟨(.bin .lss), [.t 5, .c (.pv (.i .i64 1))], (some 6), none⟩,
    ⟨.mv, [.t 6], (some 7), none⟩,
    ⟨.mv, [.t 1], (some 8), (some (7, false))⟩,
    ⟨(.bin .gtr), [.t 8, .c (.pv (.i .i64 8))], (some 9), (some (7, false))⟩,
    ⟨.pick, [.t 7, .c (.pv (.b true)), .t 9], (some 10), none⟩])
  (.ite (.t 10) (.seq (.ops [⟨.mv, [.c (.pv (.i .u32 0))], (some 4), none⟩])
    .ret)
    .skip))
  (.seq (.ops [⟨.mv, [.t 1], (some 11), none⟩,
    ⟨(.bin .sub), [.t 11, .c (.pv (.i .i64 1))], (some 12), none⟩,
    ⟨(.iaA 8 1), [.t 2, .t 12], (some 13), none⟩,
    ⟨(.ld 1 false), [.t 13], (some 14), none⟩,
    ⟨.mv, [.t 14], (some 4), none⟩])
  .ret)))
theorem fn119 : fnOf Try.prog 119 = some (15, [.t 4], ir119) := by kernel_rfl
end Go.Proofs.Ytmeecblciegkkaa.Fw
