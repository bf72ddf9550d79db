/- The functions of the program in the small language, each checked against the program. -/
import Derived.Test.YtjlblbbhmmconaaFwD
import Derived.Test.YtjlblbbhmmconaaProg
import Derived.ProofKit
set_option linter.unusedVariables false
set_option linter.unusedSimpArgs false
set_option linter.unusedSectionVars false
set_option maxRecDepth 100000
namespace Go.Proofs.Ytjlblbbhmmconaa.Fw
open Go.Proofs
theorem mixed : Try.prog.follows .mixedOrders = true := by kernel_rfl
def ir8 : C :=
  (.seq (.ops [⟨.mv, [.c (.pv (.b false))], (some 4), none⟩])
  (.seq (.seq (.ops [⟨(.call 14), [], (some 8), none⟩,
    ⟨(.un .not), [.t 8], (some 9), none⟩])
  (.ite (.t 9) (.seq (.ops [⟨.mv, [.c (.pv (.b false))], (some 4), none⟩])
    .ret)
    .skip))
  (.seq (.any [11, 14] [(⟨.mv, [.t 0], (some 10), none⟩, 0, [11, 14]),
    (⟨(.call 35), [.t 10], (some 11), none⟩, 1, [11, 14]),
    (⟨.b2s, [.t 11], (some 12), none⟩, 1, [14]),
    (⟨.mv, [.t 1], (some 13), none⟩, 0, [11, 14]),
    (⟨(.call 35), [.t 13], (some 14), none⟩, 1, [14]),
    (⟨.b2s, [.t 14], (some 15), none⟩, 1, [11]),
    (⟨.mv, [.t 12], (some 5), none⟩, 0, []),
    (⟨.mv, [.t 15], (some 6), none⟩, 0, [])])
  (.seq (.ops [⟨.mv, [.t 5], (some 16), none⟩,
    ⟨.lenS, [.t 16], (some 17), none⟩,
    ⟨.mv, [.t 6], (some 18), none⟩,
    ⟨.lenS, [.t 18], (some 19), none⟩,
    ⟨(.bin .lss), [.t 17, .t 19], (some 20), none⟩,
    ⟨.mv, [.t 20], (some 21), none⟩,
    ⟨.mv, [.t 5], (some 22), (some (21, false))⟩,
    ⟨.lenS, [.t 22], (some 23), (some (21, false))⟩,
    ⟨.mv, [.t 6], (some 24), (some (21, false))⟩,
    ⟨.lenS, [.t 24], (some 25), (some (21, false))⟩,
    ⟨(.bin .eql), [.t 23, .t 25], (some 26), (some (21, false))⟩,
    ⟨.mv, [.t 26], (some 27), (some (21, false))⟩,
    ⟨.mv, [.t 5], (some 28), (some (27, true))⟩,
    ⟨.mv, [.t 6], (some 29), (some (27, true))⟩,
    ⟨(.bin .lss), [.t 28, .t 29], (some 30), (some (27, true))⟩,
    ⟨.pick, [.t 27, .t 30, .c (.pv (.b false))], (some 31), (some (21, false))⟩,
    ⟨.pick, [.t 21, .c (.pv (.b true)), .t 31], (some 32), none⟩,
    ⟨.mv, [.t 32], (some 7), none⟩])
  (.seq (.ops [⟨.mv, [.t 7], (some 33), none⟩,
    ⟨.mv, [.t 0], (some 34), none⟩,
    ⟨.mv, [.t 1], (some 35), none⟩,
    ⟨(.bin .lss), [.t 34, .t 35], (some 36), none⟩,
    ⟨(.binB .eql), [.t 33, .t 36], (some 37), none⟩,
    ⟨.mv, [.t 37], (some 38), none⟩,
    ⟨.mv, [.t 5], (some 39), (some (38, true))⟩,
    ⟨.mv, [.t 6], (some 40), (some (38, true))⟩,
    ⟨(.bin .eql), [.t 39, .t 40], (some 41), (some (38, true))⟩,
    ⟨.mv, [.t 0], (some 42), (some (38, true))⟩,
    ⟨.mv, [.t 1], (some 43), (some (38, true))⟩,
    ⟨(.bin .eql), [.t 42, .t 43], (some 44), (some (38, true))⟩,
    ⟨(.binB .eql), [.t 41, .t 44], (some 45), (some (38, true))⟩,
    ⟨.pick, [.t 38, .t 45, .c (.pv (.b false))], (some 46), none⟩,
    ⟨.mv, [.t 46], (some 47), none⟩,
    ⟨.mv, [.t 5], (some 48), (some (47, true))⟩,
    ⟨.lenS, [.t 48], (some 49), (some (47, true))⟩,
    ⟨(.bin .leq), [.t 49, .c (.pv (.i .i64 8))], (some 50), (some (47, true))⟩,
    ⟨.pick, [.t 47, .t 50, .c (.pv (.b false))], (some 51), none⟩,
    ⟨.mv, [.t 51], (some 4), none⟩])
  .ret)))))
theorem fn8 : fnOf Try.prog 8 = some (52, [.t 4], ir8) := by kernel_rfl
def ir14 : C :=
  (.seq (.ops [⟨.mv, [.c (.pv (.b false))], (some 0), none⟩])
  (.seq (.ops [⟨(.bsl 1), [.c (.pv (.i .u8 97))], (some 6), none⟩,
    ⟨.b2b, [.t 6], (some 7), none⟩,
    ⟨(.bsl 1), [.t 7, .c (.pv (.sl true 0 []))], (some 8), none⟩,
    ⟨(.call 16), [.t 8], (some 9), none⟩,
    ⟨.mv, [.t 9], (some 5), none⟩,
    ⟨(.ext 0), [.t 5], (some 10), none⟩,
    ⟨(.ext 1), [.t 5], (some 11), none⟩,
    ⟨.mv, [.t 10], (some 1), none⟩,
    ⟨.mv, [.t 11], (some 2), none⟩])
  (.seq (.ops [⟨.mv, [.t 1], (some 13), none⟩,
    ⟨(.call 17), [.t 13, .c (.pv (.i .i64 2))], (some 14), none⟩,
    ⟨.mv, [.t 14], (some 12), none⟩,
    ⟨(.ext 0), [.t 12], (some 15), none⟩,
    ⟨(.ext 1), [.t 12], (some 16), none⟩,
    ⟨.mv, [.t 15], (some 3), none⟩,
    ⟨.mv, [.t 16], (some 4), none⟩])
  (.seq (.ops [⟨.mv, [.t 2], (some 17), none⟩,
    ⟨(.bin .eql), [.t 17, .c (.pv (.i .i64 0))], (some 18), none⟩,
    ⟨.mv, [.t 18], (some 19), none⟩,
    ⟨.mv, [.t 4], (some 20), (some (19, true))⟩,
    ⟨(.bin .eql), [.t 20, .c (.pv (.i .i64 0))], (some 21), (some (19, true))⟩,
    ⟨.pick, [.t 19, .t 21, .c (.pv (.b false))], (some 22), none⟩,
    ⟨.mv, [.t 22], (some 23), none⟩,
    ⟨.mv, [.t 1], (some 24), (some (23, true))⟩,
    ⟨.b2s, [.t 24], (some 25), (some (23, true))⟩,
    ⟨(.bin .eql), [.t 25, .c (.pv (.s [1, 97, 0]))], (some 26), (some (23, true))⟩,
    ⟨.pick, [.t 23, .t 26, .c (.pv (.b false))], (some 27), none⟩,
    ⟨.mv, [.t 27], (some 28), none⟩,
    ⟨.mv, [.t 3], (some 29), (some (28, true))⟩,
    ⟨.len, [.t 29], (some 30), (some (28, true))⟩,
    ⟨(.bin .eql), [.t 30, .c (.pv (.i .i64 2))], (some 31), (some (28, true))⟩,
    ⟨.pick, [.t 28, .t 31, .c (.pv (.b false))], (some 32), none⟩,
    ⟨.mv, [.t 32], (some 33), none⟩,
    ⟨.mv, [.t 3], (some 34), (some (33, true))⟩,
    ⟨(.iaS 1), [.t 34, .c (.pv (.i .i64 0))], (some 35), (some (33, true))⟩,
    ⟨(.ld 1 false), [.t 35], (some 36), (some (33, true))⟩,
    ⟨.b2s, [.t 36], (some 37), (some (33, true))⟩,
    ⟨(.bin .eql), [.t 37, .c (.pv (.s [97]))], (some 38), (some (33, true))⟩,
    ⟨.pick, [.t 33, .t 38, .c (.pv (.b false))], (some 39), none⟩,
    ⟨.mv, [.t 39], (some 0), none⟩])
  .ret))))
theorem fn14 : fnOf Try.prog 14 = some (40, [.t 0], ir14) := by kernel_rfl
def ir15 : C :=
  (.seq (.ops [⟨.mv, [.c (.pv (.b false))], (some 2), none⟩])
  (.seq (.ops [⟨.mv, [.c (.pv (.i .i64 3000))], (some 3), none⟩])
  (.seq (.seq (.ops [⟨.mv, [.t 0], (some 6), none⟩,
    ⟨.len, [.t 6], (some 7), none⟩,
    ⟨.mv, [.c (.pv (.i .i64 0))], (some 8), none⟩])
  (.block 0 (.loop (.seq (.ops [⟨(.bin .lss), [.t 8, .t 7], (some 9), none⟩])
      (.seq (.ite (.t 9) .skip
        (.exit 0))
      (.seq (.block 1 (.seq (.ops [⟨(.iaS 1), [.t 6, .t 8], (some 10), none⟩,
          ⟨(.ld 1 false), [.t 10], (some 11), none⟩,
          ⟨.mv, [.t 11], (some 5), none⟩])
        (.seq (.ops [⟨.mv, [.t 3], (some 12), none⟩,
          ⟨.mv, [.t 5], (some 13), none⟩,
          ⟨.len, [.t 13], (some 14), none⟩,
          ⟨.mn, [.t 14, .c (.pv (.i .i64 3000))], (some 15), none⟩,
          ⟨(.bin .add), [.t 15, .c (.pv (.i .i64 1))], (some 16), none⟩,
          ⟨(.bin .sub), [.t 12, .t 16], (some 17), none⟩,
          ⟨.mv, [.t 17], (some 3), none⟩])
        (.seq (.ops [⟨.mv, [.t 3], (some 18), none⟩,
          ⟨(.bin .lss), [.t 18, .c (.pv (.i .i64 0))], (some 19), none⟩])
        (.ite (.t 19) (.seq (.ops [⟨.mv, [.c (.pv (.b false))], (some 2), none⟩])
          .ret)
          .skip)))))
      (.ops [⟨(.bin .add), [.t 8, .c (.pv (.i .i64 1))], (some 20), none⟩,
        ⟨.mv, [.t 20], (some 8), none⟩])))))))
  (.seq (.ops [⟨.mv, [.c (.pv (.b true))], (some 2), none⟩])
  .ret))))
theorem fn15 : fnOf Try.prog 15 = some (21, [.t 2], ir15) := by kernel_rfl
def ir16 : C :=
  (.seq (.ops [⟨.mv, [.c (.pv (.sl true 0 []))], (some 2), none⟩,
    ⟨.mv, [.c (.pv (.i .i64 0))], (some 3), none⟩])
  (.seq (.ops [⟨(.bsl 1), [], (some 8), none⟩,
    ⟨.mv, [.t 8], (some 4), none⟩])
  (.seq (.seq (.ops [⟨.mv, [.t 0], (some 9), none⟩,
    ⟨.len, [.t 9], (some 10), none⟩,
    ⟨.mv, [.c (.pv (.i .i64 0))], (some 11), none⟩])
  (.block 0 (.loop (.seq (.ops [⟨(.bin .lss), [.t 11, .t 10], (some 12), none⟩])
      (.seq (.ite (.t 12) .skip
        (.exit 0))
      (.seq (.block 1 (.seq (.ops [⟨(.iaS 1), [.t 9, .t 11], (some 13), none⟩,
          ⟨(.ld 1 false), [.t 13], (some 14), none⟩,
          ⟨.mv, [.t 14], (some 6), none⟩])
        (.seq (.seq (.ops [⟨.mv, [.t 6], (some 15), none⟩,
          ⟨.len, [.t 15], (some 16), none⟩,
          ⟨.mv, [.t 16], (some 7), none⟩])
        (.block 2 (.seq (.ops [⟨.mv, [.t 7], (some 26), none⟩,
            ⟨(.bin .gtr), [.t 26, .c (.pv (.i .i64 65535))], (some 27), none⟩,
            ⟨.mv, [.t 27], (some 25), none⟩])
          (.ite (.t 25) (.seq (.ops [⟨.mv, [.c (.pv (.sl true 0 []))], (some 2), none⟩,
              ⟨.mv, [.c (.pv (.i .i64 4))], (some 3), none⟩])
            .ret)
            (.seq (.ops [⟨.mv, [.t 7], (some 29), none⟩,
              ⟨(.bin .lss), [.t 29, .c (.pv (.i .i64 255))], (some 30), none⟩,
              ⟨.mv, [.t 30], (some 28), none⟩])
            (.ite (.t 28) (.ops [⟨.mv, [.t 4], (some 31), none⟩,
                ⟨.mv, [.t 7], (some 32), none⟩,
                ⟨(.cvI .u8), [.t 32], (some 33), none⟩,
                ⟨(.bsl 1), [.t 33], (some 34), none⟩,
                ⟨(.app 1 1), [.t 31, .t 34], (some 35), none⟩,
                ⟨.mv, [.t 35], (some 4), none⟩])
              (.ops [⟨.mv, [.t 4], (some 17), none⟩,
                ⟨.mv, [.t 7], (some 18), none⟩,
                ⟨(.bin .shr), [.t 18, .c (.pv (.i .u64 8))], (some 19), none⟩,
                ⟨(.cvI .u8), [.t 19], (some 20), none⟩,
                ⟨.mv, [.t 7], (some 21), none⟩,
                ⟨(.cvI .u8), [.t 21], (some 22), none⟩,
                ⟨(.bsl 1), [.c (.pv (.i .u8 255)), .t 20, .t 22], (some 23), none⟩,
                ⟨(.app 1 1), [.t 17, .t 23], (some 24), none⟩,
                ⟨.mv, [.t 24], (some 4), none⟩])))))))
        (.ops [⟨.mv, [.t 4], (some 36), none⟩,
          ⟨.mv, [.t 6], (some 37), none⟩,
          ⟨(.app 1 1), [.t 36, .t 37], (some 38), none⟩,
          ⟨.mv, [.t 38], (some 4), none⟩]))))
      (.ops [⟨(.bin .add), [.t 11, .c (.pv (.i .i64 1))], (some 39), none⟩,
        ⟨.mv, [.t 39], (some 11), none⟩])))))))
  (.seq (.ops [⟨.mv, [.t 4], (some 40), none⟩,
    ⟨.mv, [.t 40], (some 2), none⟩,
    ⟨.mv, [.c (.pv (.i .i64 0))], (some 3), none⟩])
  .ret))))
theorem fn16 : fnOf Try.prog 16 = some (41, [.t 2, .t 3], ir16) := by kernel_rfl
def ir17 : C :=
  (.seq (.ops [⟨.box, [.t 1], (some 3), none⟩,
    ⟨(.new (.pv (.sl true 0 []))), [], (some 4), none⟩,
    ⟨(.new (.pv (.i .i64 0))), [], (some 5), none⟩])
  (.seq (.ops [⟨(.new (.pv (.sl true 0 []))), [], (some 6), none⟩])
  (.seq (.seq (.ops [⟨.mv, [.t 0], (some 9), none⟩,
    ⟨(.call 42), [.t 9], (some 10), none⟩])
  (.block 0 (.rng (.t 10) [11, 12] (.seq (.ops [⟨.mv, [.t 11], (some 7), none⟩])
      (.ops [⟨.mv, [.t 12], (some 8), none⟩]))
      (.block 1 (.seq (.seq (.ops [⟨.mv, [.t 8], (some 13), none⟩,
          ⟨(.bin .neq), [.t 13, .c (.pv (.i .i64 0))], (some 14), none⟩])
        (.ite (.t 14) (.seq (.ops [⟨.mv, [.t 8], (some 15), none⟩,
            ⟨(.sto 1), [.t 4, .c (.pv (.sl true 0 []))], none, none⟩,
            ⟨(.sto 1), [.t 5, .t 15], none, none⟩])
          .ret)
          .skip))
        (.seq (.seq (.ops [⟨(.ld 1 false), [.t 6], (some 16), none⟩,
          ⟨.len, [.t 16], (some 17), none⟩,
          ⟨(.ld 1 false), [.t 3], (some 18), none⟩,
          ⟨(.bin .geq), [.t 17, .t 18], (some 19), none⟩])
        (.ite (.t 19) (.seq (.ops [⟨(.sto 1), [.t 4, .c (.pv (.sl true 0 []))], none, none⟩,
            ⟨(.sto 1), [.t 5, .c (.pv (.i .i64 4))], none, none⟩])
          .ret)
          .skip))
        (.ops [⟨(.ld 1 false), [.t 6], (some 20), none⟩,
          ⟨.mv, [.t 7], (some 21), none⟩,
          ⟨(.bsl 1), [.t 21], (some 22), none⟩,
          ⟨(.app 1 24), [.t 20, .t 22], (some 23), none⟩,
          ⟨(.sto 1), [.t 6, .t 23], none, none⟩])))))))
  (.seq (.ops [⟨(.ld 1 false), [.t 6], (some 24), none⟩,
    ⟨(.sto 1), [.t 4, .t 24], none, none⟩,
    ⟨(.sto 1), [.t 5, .c (.pv (.i .i64 0))], none, none⟩])
  .ret))))
theorem fn17 : fnOf Try.prog 17 = some (25, [.c 4 1 false, .c 5 1 false], ir17) := by kernel_rfl
def ir18 : C :=
  (.seq (.ops [⟨.mv, [.c (.pv (.b false))], (some 4), none⟩])
  (.seq (.seq (.ops [⟨.mv, [.t 0], (some 6), none⟩,
    ⟨.len, [.t 6], (some 7), none⟩,
    ⟨.mv, [.t 1], (some 8), none⟩,
    ⟨.len, [.t 8], (some 9), none⟩,
    ⟨(.bin .neq), [.t 7, .t 9], (some 10), none⟩])
  (.ite (.t 10) (.seq (.ops [⟨.mv, [.c (.pv (.b false))], (some 4), none⟩])
    .ret)
    .skip))
  (.seq (.seq (.ops [⟨.mv, [.t 0], (some 11), none⟩,
    ⟨.len, [.t 11], (some 12), none⟩,
    ⟨.mv, [.c (.pv (.i .i64 0))], (some 13), none⟩])
  (.block 0 (.loop (.seq (.ops [⟨(.bin .lss), [.t 13, .t 12], (some 14), none⟩])
      (.seq (.ite (.t 14) .skip
        (.exit 0))
      (.seq (.block 1 (.seq (.ops [⟨.mv, [.t 13], (some 15), none⟩,
          ⟨.mv, [.t 15], (some 5), none⟩])
        (.seq (.any [] [(⟨.mv, [.t 0], (some 16), none⟩, 0, []),
          (⟨.mv, [.t 5], (some 17), none⟩, 0, []),
          (⟨(.iaS 1), [.t 16, .t 17], (some 18), none⟩, 1, []),
          (⟨(.ld 1 false), [.t 18], (some 19), none⟩, 1, []),
          (⟨.mv, [.t 1], (some 20), none⟩, 0, []),
          (⟨.mv, [.t 5], (some 21), none⟩, 0, []),
          (⟨(.iaS 1), [.t 20, .t 21], (some 22), none⟩, 1, []),
          (⟨(.ld 1 false), [.t 22], (some 23), none⟩, 1, []),
          (⟨(.bin .neq), [.t 19, .t 23], (some 24), none⟩, 0, [])])
        (.ite (.t 24) (.seq (.ops [⟨.mv, [.c (.pv (.b false))], (some 4), none⟩])
          .ret)
          .skip))))
      (.ops [⟨(.bin .add), [.t 13, .c (.pv (.i .i64 1))], (some 25), none⟩,
        ⟨.mv, [.t 25], (some 13), none⟩])))))))
  (.seq (.ops [⟨.mv, [.c (.pv (.b true))], (some 4), none⟩])
  .ret))))
theorem fn18 : fnOf Try.prog 18 = some (26, [.t 4], ir18) := by kernel_rfl
def ir19 : C :=
  (.seq (.ops [⟨.mv, [.c (.pv (.sl true 0 []))], (some 2), none⟩])
  (.seq (.ops [⟨.mv, [.c (.pv (.sl true 0 []))], (some 3), none⟩])
  (.seq (.seq (.ops [⟨.mv, [.t 0], (some 6), none⟩,
    ⟨.len, [.t 6], (some 7), none⟩,
    ⟨.mv, [.c (.pv (.i .i64 0))], (some 8), none⟩])
  (.block 0 (.loop (.seq (.ops [⟨(.bin .lss), [.t 8, .t 7], (some 9), none⟩])
      (.seq (.ite (.t 9) .skip
        (.exit 0))
      (.seq (.block 1 (.seq (.ops [⟨(.iaS 1), [.t 6, .t 8], (some 10), none⟩,
          ⟨(.ld 1 false), [.t 10], (some 11), none⟩,
          ⟨.mv, [.t 11], (some 5), none⟩])
        (.ops [⟨.mv, [.t 3], (some 12), none⟩,
          ⟨.mv, [.t 5], (some 13), none⟩,
          ⟨.b2s, [.t 13], (some 14), none⟩,
          ⟨(.bsl 1), [.t 14], (some 15), none⟩,
          ⟨(.app 1 16), [.t 12, .t 15], (some 16), none⟩,
          ⟨.mv, [.t 16], (some 3), none⟩])))
      (.ops [⟨(.bin .add), [.t 8, .c (.pv (.i .i64 1))], (some 17), none⟩,
        ⟨.mv, [.t 17], (some 8), none⟩])))))))
  (.seq (.ops [⟨.mv, [.t 3], (some 18), none⟩,
    ⟨.mv, [.t 18], (some 2), none⟩])
  .ret))))
theorem fn19 : fnOf Try.prog 19 = some (19, [.t 2], ir19) := by kernel_rfl
def ir35 : C :=
  (.seq (.ops [⟨.mv, [.c (.pv (.sl true 0 []))], (some 2), none⟩])
  (.seq (.ops [⟨(.bsl 1), [], (some 6), none⟩,
    ⟨.mv, [.t 6], (some 3), none⟩])
  (.seq (.seq (.ops [⟨.mv, [.c (.pv (.i .i64 56))], (some 4), none⟩])
  (.block 0 (.loop (.seq (.seq (.ops [⟨.mv, [.t 4], (some 7), none⟩,
        ⟨(.bin .geq), [.t 7, .c (.pv (.i .i64 0))], (some 8), none⟩])
      (.ite (.t 8) .skip
        (.exit 0)))
      (.seq (.block 1 (.seq (.ops [⟨.mv, [.t 0], (some 11), none⟩,
          ⟨.mv, [.t 4], (some 12), none⟩,
          ⟨(.bin .shr), [.t 11, .t 12], (some 13), none⟩,
          ⟨(.cvI .u8), [.t 13], (some 14), none⟩,
          ⟨.mv, [.t 14], (some 5), none⟩])
        (.seq (.ops [⟨.mv, [.t 5], (some 15), none⟩,
          ⟨(.bin .neq), [.t 15, .c (.pv (.i .u8 0))], (some 16), none⟩,
          ⟨.mv, [.t 16], (some 17), none⟩,
          ⟨.mv, [.t 3], (some 18), (some (17, false))⟩,
          ⟨.len, [.t 18], (some 19), (some (17, false))⟩,
          ⟨(.bin .gtr), [.t 19, .c (.pv (.i .i64 0))], (some 20), (some (17, false))⟩,
          ⟨.pick, [.t 17, .c (.pv (.b true)), .t 20], (some 21), none⟩])
        (.ite (.t 21) (.ops [⟨.mv, [.t 3], (some 22), none⟩,
            ⟨.mv, [.t 5], (some 23), none⟩,
            ⟨(.bsl 1), [.t 23], (some 24), none⟩,
            ⟨(.app 1 1), [.t 22, .t 24], (some 25), none⟩,
            ⟨.mv, [.t 25], (some 3), none⟩])
          .skip))))
      (.ops [⟨.mv, [.t 4], (some 9), none⟩,
        ⟨(.bin .sub), [.t 9, .c (.pv (.i .i64 8))], (some 10), none⟩,
        ⟨.mv, [.t 10], (some 4), none⟩]))))))
  (.seq (.ops [⟨.mv, [.t 3], (some 26), none⟩,
    ⟨.mv, [.t 26], (some 2), none⟩])
  .ret))))
theorem fn35 : fnOf Try.prog 35 = some (27, [.t 2], ir35) := by kernel_rfl
def ir36 : C :=
  (.seq (.ops [⟨.mv, [.c (.pv (.i .u64 0))], (some 2), none⟩,
    ⟨.mv, [.c (.pv (.i .i64 0))], (some 3), none⟩])
  (.seq (.block 0 (.seq (.ops [⟨.mv, [.t 0], (some 8), none⟩,
      ⟨.len, [.t 8], (some 9), none⟩,
      ⟨(.bin .gtr), [.t 9, .c (.pv (.i .i64 8))], (some 10), none⟩,
      ⟨.mv, [.t 10], (some 7), none⟩])
    (.ite (.t 7) (.seq (.ops [⟨.mv, [.c (.pv (.i .u64 0))], (some 2), none⟩,
        ⟨.mv, [.c (.pv (.i .i64 4))], (some 3), none⟩])
      .ret)
      (.seq (.ops [⟨.mv, [.t 0], (some 12), none⟩,
        ⟨.len, [.t 12], (some 13), none⟩,
        ⟨(.bin .gtr), [.t 13, .c (.pv (.i .i64 0))], (some 14), none⟩,
        ⟨.mv, [.t 14], (some 15), none⟩,
        ⟨.mv, [.t 0], (some 16), (some (15, true))⟩,
        ⟨(.iaS 1), [.t 16, .c (.pv (.i .i64 0))], (some 17), (some (15, true))⟩,
        ⟨(.ld 1 false), [.t 17], (some 18), (some (15, true))⟩,
        ⟨(.bin .eql), [.t 18, .c (.pv (.i .u8 0))], (some 19), (some (15, true))⟩,
        ⟨.pick, [.t 15, .t 19, .c (.pv (.b false))], (some 20), none⟩,
        ⟨.mv, [.t 20], (some 11), none⟩])
      (.ite (.t 11) (.seq (.ops [⟨.mv, [.c (.pv (.i .u64 0))], (some 2), none⟩,
          ⟨.mv, [.c (.pv (.i .i64 7))], (some 3), none⟩])
        .ret)
        .skip)))))
  (.seq (.ops [⟨.mv, [.c (.pv (.i .u64 0))], (some 4), none⟩])
  (.seq (.seq (.ops [⟨.mv, [.t 0], (some 21), none⟩,
    ⟨.len, [.t 21], (some 22), none⟩,
    ⟨.mv, [.c (.pv (.i .i64 0))], (some 23), none⟩])
  (.block 1 (.loop (.seq (.ops [⟨(.bin .lss), [.t 23, .t 22], (some 24), none⟩])
      (.seq (.ite (.t 24) .skip
        (.exit 1))
      (.seq (.block 2 (.seq (.ops [⟨(.iaS 1), [.t 21, .t 23], (some 25), none⟩,
          ⟨(.ld 1 false), [.t 25], (some 26), none⟩,
          ⟨.mv, [.t 26], (some 6), none⟩])
        (.ops [⟨.mv, [.t 4], (some 27), none⟩,
          ⟨(.bin .shl), [.t 27, .c (.pv (.i .u64 8))], (some 28), none⟩,
          ⟨.mv, [.t 6], (some 29), none⟩,
          ⟨(.cvI .u64), [.t 29], (some 30), none⟩,
          ⟨(.bin .or), [.t 28, .t 30], (some 31), none⟩,
          ⟨.mv, [.t 31], (some 4), none⟩])))
      (.ops [⟨(.bin .add), [.t 23, .c (.pv (.i .i64 1))], (some 32), none⟩,
        ⟨.mv, [.t 32], (some 23), none⟩])))))))
  (.seq (.ops [⟨.mv, [.t 4], (some 33), none⟩,
    ⟨.mv, [.t 33], (some 2), none⟩,
    ⟨.mv, [.c (.pv (.i .i64 0))], (some 3), none⟩])
  .ret)))))
theorem fn36 : fnOf Try.prog 36 = some (34, [.t 2, .t 3], ir36) := by kernel_rfl
def ir37 : C :=
  (.seq (.ops [⟨.mv, [.c (.pv (.i .u64 0))], (some 2), none⟩,
    ⟨.mv, [.c (.pv (.i .i64 0))], (some 3), none⟩])
  (.seq (.seq (.ops [⟨.mv, [.t 0], (some 6), none⟩,
    ⟨.lenS, [.t 6], (some 7), none⟩,
    ⟨(.bin .gtr), [.t 7, .c (.pv (.i .i64 8))], (some 8), none⟩])
  (.ite (.t 8) (.seq (.ops [⟨.mv, [.c (.pv (.i .u64 0))], (some 2), none⟩,
      ⟨.mv, [.c (.pv (.i .i64 4))], (some 3), none⟩])
    .ret)
    .skip))
  (.seq (.ops [⟨.mv, [.c (.pv (.i .u64 0))], (some 4), none⟩])
  (.seq (.seq (.ops [⟨.mv, [.c (.pv (.i .i64 0))], (some 5), none⟩])
  (.block 0 (.loop (.seq (.seq (.ops [⟨.mv, [.t 5], (some 9), none⟩,
        ⟨.mv, [.t 0], (some 10), none⟩,
        ⟨.lenS, [.t 10], (some 11), none⟩,
        ⟨(.bin .lss), [.t 9, .t 11], (some 12), none⟩])
      (.ite (.t 12) .skip
        (.exit 0)))
      (.seq (.block 1 (.ops [⟨.mv, [.t 4], (some 15), none⟩,
          ⟨(.bin .mul), [.t 15, .c (.pv (.i .u64 256))], (some 16), none⟩,
          ⟨.mv, [.t 0], (some 17), none⟩,
          ⟨.mv, [.t 5], (some 18), none⟩,
          ⟨.ixS, [.t 17, .t 18], (some 19), none⟩,
          ⟨(.cvI .u64), [.t 19], (some 20), none⟩,
          ⟨(.bin .add), [.t 16, .t 20], (some 21), none⟩,
          ⟨.mv, [.t 21], (some 4), none⟩]))
      (.ops [⟨.mv, [.t 5], (some 13), none⟩,
        ⟨(.bin .add), [.t 13, .c (.pv (.i .i64 1))], (some 14), none⟩,
        ⟨.mv, [.t 14], (some 5), none⟩]))))))
  (.seq (.seq (.ops [⟨.mv, [.t 4], (some 22), none⟩,
    ⟨(.call 38), [.t 22], (some 23), none⟩,
    ⟨.mv, [.t 0], (some 24), none⟩,
    ⟨(.bin .neq), [.t 23, .t 24], (some 25), none⟩])
  (.ite (.t 25) (.seq (.ops [⟨.mv, [.c (.pv (.i .u64 0))], (some 2), none⟩,
      ⟨.mv, [.c (.pv (.i .i64 7))], (some 3), none⟩])
    .ret)
    .skip))
  (.seq (.ops [⟨.mv, [.t 4], (some 26), none⟩,
    ⟨.mv, [.t 26], (some 2), none⟩,
    ⟨.mv, [.c (.pv (.i .i64 0))], (some 3), none⟩])
  .ret))))))
theorem fn37 : fnOf Try.prog 37 = some (27, [.t 2, .t 3], ir37) := by kernel_rfl
def ir38 : C :=
  (.seq (.ops [⟨.mv, [.c (.pv (.s []))], (some 2), none⟩])
  (.seq (.seq (.ops [⟨.mv, [.t 0], (some 3), none⟩,
    ⟨(.bin .eql), [.t 3, .c (.pv (.i .u64 0))], (some 4), none⟩])
  (.ite (.t 4) (.seq (.ops [⟨.mv, [.c (.pv (.s []))], (some 2), none⟩])
    .ret)
    .skip))
  (.seq (.any [7, 11] [(⟨.mv, [.t 0], (some 5), none⟩, 0, [7, 11]),
    (⟨(.bin .quo), [.t 5, .c (.pv (.i .u64 256))], (some 6), none⟩, 0, [7, 11]),
    (⟨(.call 38), [.t 6], (some 7), none⟩, 1, [7, 11]),
    (⟨.mv, [.t 0], (some 8), none⟩, 0, [7, 11]),
    (⟨(.bin .rem), [.t 8, .c (.pv (.i .u64 256))], (some 9), none⟩, 0, [7, 11]),
    (⟨(.cvI .u8), [.t 9], (some 10), none⟩, 0, [7, 11]),
    (⟨(.bsl 1), [.t 10], (some 11), none⟩, 1, [7, 11]),
    (⟨.b2s, [.t 11], (some 12), none⟩, 1, [7]),
    (⟨(.bin .add), [.t 7, .t 12], (some 13), none⟩, 0, [11]),
    (⟨.mv, [.t 13], (some 2), none⟩, 0, [])])
  .ret)))
theorem fn38 : fnOf Try.prog 38 = some (14, [.t 2], ir38) := by kernel_rfl
def ir42 : C :=
  (.seq (.ops [⟨.mv, [.c (.pv (.v .nilFunc))], (some 2), none⟩])
  (.seq (.ops [⟨(.bsl 1), [], (some 4), none⟩,
    ⟨.mv, [.t 0], (some 5), none⟩,
    ⟨(.app 1 1), [.t 4, .t 5], (some 6), none⟩,
    ⟨(.new (.pv (.sl true 0 []))), [], (some 3), none⟩,
    ⟨(.sto 1), [.t 3, .t 6], none, none⟩])
  (.seq (.ops [⟨(.mkf (.func 53)), [.t 3], (some 7), none⟩,
    ⟨.mv, [.t 7], (some 2), none⟩])
  .ret)))
theorem fn42 : fnOf Try.prog 42 = some (8, [.t 2], ir42) := by kernel_rfl
def ir46 : C :=
  (.seq (.ops [⟨.mv, [.c (.pv (.sl true 0 []))], (some 2), none⟩])
  (.seq (.ops [⟨.mv, [.t 0], (some 4), none⟩,
    ⟨(.cvI .u64), [.t 4], (some 5), none⟩,
    ⟨(.call 35), [.t 5], (some 6), none⟩,
    ⟨.mv, [.t 6], (some 3), none⟩])
  (.seq (.ops [⟨.mv, [.t 3], (some 7), none⟩,
    ⟨.len, [.t 7], (some 8), none⟩,
    ⟨(.cvI .u8), [.t 8], (some 9), none⟩,
    ⟨(.bsl 1), [.t 9], (some 10), none⟩,
    ⟨.mv, [.t 3], (some 11), none⟩,
    ⟨(.app 1 1), [.t 10, .t 11], (some 12), none⟩,
    ⟨.mv, [.t 12], (some 2), none⟩])
  .ret)))
theorem fn46 : fnOf Try.prog 46 = some (13, [.t 2], ir46) := by kernel_rfl
def ir53 : C :=
  (.seq (.ops [⟨(.ld 1 false), [.t 1], (some 7), none⟩,
    ⟨.mv, [.t 7], (some 3), none⟩])
  (.block 0 (.loop (.seq (.seq (.ops [⟨.mv, [.t 3], (some 8), none⟩,
        ⟨.len, [.t 8], (some 9), none⟩,
        ⟨(.bin .gtr), [.t 9, .c (.pv (.i .i64 0))], (some 10), none⟩])
      (.ite (.t 10) .skip
        (.exit 0)))
      (.block 1 (.seq (.ops [⟨.mv, [.t 3], (some 12), none⟩,
          ⟨(.call 54), [.t 12], (some 13), none⟩,
          ⟨.mv, [.t 13], (some 11), none⟩,
          ⟨(.ext 0), [.t 11], (some 14), none⟩,
          ⟨(.ext 1), [.t 11], (some 15), none⟩,
          ⟨(.ext 2), [.t 11], (some 16), none⟩,
          ⟨.mv, [.t 14], (some 4), none⟩,
          ⟨.mv, [.t 15], (some 5), none⟩,
          ⟨.mv, [.t 16], (some 6), none⟩])
        (.seq (.seq (.ops [⟨.mv, [.t 6], (some 17), none⟩,
          ⟨(.bin .eql), [.t 17, .c (.pv (.i .i64 0))], (some 18), none⟩,
          ⟨.mv, [.t 18], (some 19), none⟩,
          ⟨.mv, [.t 4], (some 20), (some (19, true))⟩,
          ⟨.mv, [.t 3], (some 21), (some (19, true))⟩,
          ⟨.len, [.t 21], (some 22), (some (19, true))⟩,
          ⟨.mv, [.t 5], (some 23), (some (19, true))⟩,
          ⟨(.bin .sub), [.t 22, .t 23], (some 24), (some (19, true))⟩,
          ⟨(.bin .gtr), [.t 20, .t 24], (some 25), (some (19, true))⟩,
          ⟨.pick, [.t 19, .t 25, .c (.pv (.b false))], (some 26), none⟩])
        (.ite (.t 26) (.ops [⟨.mv, [.c (.pv (.i .i64 8))], (some 6), none⟩])
          .skip))
        (.seq (.seq (.ops [⟨.mv, [.t 6], (some 27), none⟩,
          ⟨(.bin .neq), [.t 27, .c (.pv (.i .i64 0))], (some 28), none⟩])
        (.ite (.t 28) (.seq (.ops [⟨.mv, [.t 0], (some 29), none⟩,
            ⟨.mv, [.t 6], (some 30), none⟩,
            ⟨.yv, [.t 29, .c (.pv (.sl true 0 [])), .t 30], (some 31), none⟩])
          .ret)
          .skip))
        (.seq (.seq (.ops [⟨.mv, [.t 0], (some 32), none⟩,
          ⟨(.bsl 1), [], (some 33), none⟩,
          ⟨.mv, [.t 3], (some 34), none⟩,
          ⟨.mv, [.t 5], (some 35), none⟩,
          ⟨.mv, [.t 5], (some 36), none⟩,
          ⟨.mv, [.t 4], (some 37), none⟩,
          ⟨(.bin .add), [.t 36, .t 37], (some 38), none⟩,
          ⟨(.slc 1 true true false), [.t 34, .t 35, .t 38], (some 39), none⟩,
          ⟨(.app 1 1), [.t 33, .t 39], (some 40), none⟩,
          ⟨.yv, [.t 32, .t 40, .c (.pv (.i .i64 0))], (some 41), none⟩,
          ⟨(.un .not), [.t 41], (some 42), none⟩])
        (.ite (.t 42) .ret
          .skip))
        (.ops [⟨.mv, [.t 3], (some 43), none⟩,
          ⟨.mv, [.t 5], (some 44), none⟩,
          ⟨.mv, [.t 4], (some 45), none⟩,
          ⟨(.bin .add), [.t 44, .t 45], (some 46), none⟩,
          ⟨(.slc 1 true false false), [.t 43, .t 46], (some 47), none⟩,
          ⟨.mv, [.t 47], (some 3), none⟩]))))))))))
theorem fn53 : fnOf Try.prog 53 = some (48, [], ir53) := by kernel_rfl
def ir54 : C :=
  (.seq (.ops [⟨.mv, [.c (.pv (.i .i64 0))], (some 2), none⟩,
    ⟨.mv, [.c (.pv (.i .i64 0))], (some 3), none⟩,
    ⟨.mv, [.c (.pv (.i .i64 0))], (some 4), none⟩])
  (.seq (.seq (.ops [⟨.mv, [.t 0], (some 6), none⟩,
    ⟨(.iaS 1), [.t 6, .c (.pv (.i .i64 0))], (some 7), none⟩,
    ⟨(.ld 1 false), [.t 7], (some 8), none⟩,
    ⟨(.bin .lss), [.t 8, .c (.pv (.i .u8 255))], (some 9), none⟩])
  (.ite (.t 9) (.seq (.ops [⟨.mv, [.t 0], (some 10), none⟩,
      ⟨(.iaS 1), [.t 10, .c (.pv (.i .i64 0))], (some 11), none⟩,
      ⟨(.ld 1 false), [.t 11], (some 12), none⟩,
      ⟨(.cvI .i64), [.t 12], (some 13), none⟩,
      ⟨.mv, [.t 13], (some 2), none⟩,
      ⟨.mv, [.c (.pv (.i .i64 1))], (some 3), none⟩,
      ⟨.mv, [.c (.pv (.i .i64 0))], (some 4), none⟩])
    .ret)
    .skip))
  (.seq (.seq (.ops [⟨.mv, [.t 0], (some 14), none⟩,
    ⟨.len, [.t 14], (some 15), none⟩,
    ⟨(.bin .lss), [.t 15, .c (.pv (.i .i64 3))], (some 16), none⟩])
  (.ite (.t 16) (.seq (.ops [⟨.mv, [.c (.pv (.i .i64 0))], (some 2), none⟩,
      ⟨.mv, [.c (.pv (.i .i64 0))], (some 3), none⟩,
      ⟨.mv, [.c (.pv (.i .i64 8))], (some 4), none⟩])
    .ret)
    .skip))
  (.seq (.any [] [(⟨.mv, [.t 0], (some 17), none⟩, 0, []),
    (⟨(.iaS 1), [.t 17, .c (.pv (.i .i64 1))], (some 18), none⟩, 1, []),
    (⟨(.ld 1 false), [.t 18], (some 19), none⟩, 1, []),
    (⟨(.cvI .i64), [.t 19], (some 20), none⟩, 0, []),
    (⟨(.bin .shl), [.t 20, .c (.pv (.i .u64 8))], (some 21), none⟩, 0, []),
    (⟨.mv, [.t 0], (some 22), none⟩, 0, []),
    (⟨(.iaS 1), [.t 22, .c (.pv (.i .i64 2))], (some 23), none⟩, 1, []),
    (⟨(.ld 1 false), [.t 23], (some 24), none⟩, 1, []),
    (⟨(.cvI .i64), [.t 24], (some 25), none⟩, 0, []),
    (⟨(.bin .or), [.t 21, .t 25], (some 26), none⟩, 0, []),
    (⟨.mv, [.t 26], (some 5), none⟩, 0, [])])
  (.seq (.seq (.ops [⟨.mv, [.t 5], (some 27), none⟩,
    ⟨(.bin .lss), [.t 27, .c (.pv (.i .i64 255))], (some 28), none⟩])
  (.ite (.t 28) (.seq (.ops [⟨.mv, [.c (.pv (.i .i64 0))], (some 2), none⟩,
      ⟨.mv, [.c (.pv (.i .i64 0))], (some 3), none⟩,
      ⟨.mv, [.c (.pv (.i .i64 7))], (some 4), none⟩])
    .ret)
    .skip))
  (.seq (.ops [⟨.mv, [.t 5], (some 29), none⟩,
    ⟨.mv, [.t 29], (some 2), none⟩,
    ⟨.mv, [.c (.pv (.i .i64 3))], (some 3), none⟩,
    ⟨.mv, [.c (.pv (.i .i64 0))], (some 4), none⟩])
  .ret))))))
theorem fn54 : fnOf Try.prog 54 = some (30, [.t 2, .t 3, .t 4], ir54) := by kernel_rfl
end Go.Proofs.Ytjlblbbhmmconaa.Fw
