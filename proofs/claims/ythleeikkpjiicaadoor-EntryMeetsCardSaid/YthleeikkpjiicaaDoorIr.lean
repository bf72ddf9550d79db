/- The functions of the program in the small language, each checked against the program. -/
import Derived.Test.YthleeikkpjiicaaDoorFwD
import Derived.Test.YthleeikkpjiicaaDoorProg
import Derived.ProofKit
set_option linter.unusedVariables false
set_option linter.unusedSimpArgs false
set_option linter.unusedSectionVars false
set_option maxRecDepth 100000
namespace Go.Proofs.YthleeikkpjiicaaDoor.Fw
open Go.Proofs
theorem mixed : Tryd.prog.follows .mixedOrders = true := by kernel_rfl
def ir7 : C :=
  (.seq (.ops [⟨.mv, [.c (.pv (.b false))], (some 6), none⟩])
  (.seq (.seq (.ops [⟨(.call 10), [], (some 16), none⟩,
    ⟨(.un .not), [.t 16], (some 17), none⟩,
    ⟨.mv, [.t 17], (some 18), none⟩,
    ⟨.mv, [.t 0], (some 19), (some (18, false))⟩,
    ⟨(.call 29), [.t 19], (some 20), (some (18, false))⟩,
    ⟨(.un .not), [.t 20], (some 21), (some (18, false))⟩,
    ⟨.pick, [.t 18, .c (.pv (.b true)), .t 21], (some 22), none⟩,
    ⟨.mv, [.t 22], (some 23), none⟩,
    ⟨.mv, [.t 0], (some 24), (some (23, false))⟩,
    ⟨.len, [.t 24], (some 25), (some (23, false))⟩,
    ⟨(.bin .eql), [.t 25, .c (.pv (.i .i64 0))], (some 26), (some (23, false))⟩,
    ⟨.pick, [.t 23, .c (.pv (.b true)), .t 26], (some 27), none⟩])
  (.ite (.t 27) (.seq (.ops [⟨(.call 10), [], (some 28), none⟩,
      ⟨.mv, [.t 28], (some 6), none⟩])
    .ret)
    .skip))
  (.seq (.ops [⟨.mv, [.c (.pv (.sl true 0 []))], (some 7), none⟩,
    ⟨.mv, [.c (.pv (.sl true 0 []))], (some 8), none⟩,
    ⟨.mv, [.c (.pv (.sl true 0 []))], (some 9), none⟩,
    ⟨.mv, [.c (.pv (.sl true 0 []))], (some 10), none⟩])
  (.seq (.any [] [(⟨.mv, [.t 1], (some 29), none⟩, 0, []),
    (⟨(.cvI .u64), [.t 29], (some 30), none⟩, 0, []),
    (⟨.mv, [.t 0], (some 31), none⟩, 0, []),
    (⟨.len, [.t 31], (some 32), none⟩, 1, []),
    (⟨(.cvI .u64), [.t 32], (some 33), none⟩, 0, []),
    (⟨(.bin .rem), [.t 30, .t 33], (some 34), none⟩, 0, []),
    (⟨(.cvI .i64), [.t 34], (some 35), none⟩, 0, []),
    (⟨.mv, [.t 2], (some 36), none⟩, 0, []),
    (⟨(.cvI .u64), [.t 36], (some 37), none⟩, 0, []),
    (⟨.mv, [.t 0], (some 38), none⟩, 0, []),
    (⟨.len, [.t 38], (some 39), none⟩, 1, []),
    (⟨(.cvI .u64), [.t 39], (some 40), none⟩, 0, []),
    (⟨(.bin .rem), [.t 37, .t 40], (some 41), none⟩, 0, []),
    (⟨(.cvI .i64), [.t 41], (some 42), none⟩, 0, []),
    (⟨.mv, [.t 35], (some 11), none⟩, 0, []),
    (⟨.mv, [.t 42], (some 12), none⟩, 0, [])])
  (.seq (.seq (.ops [⟨.mv, [.t 0], (some 43), none⟩,
    ⟨.len, [.t 43], (some 44), none⟩,
    ⟨.mv, [.c (.pv (.i .i64 0))], (some 45), none⟩])
  (.block 0 (.loop (.seq (.ops [⟨(.bin .lss), [.t 45, .t 44], (some 46), none⟩])
      (.seq (.ite (.t 46) .skip
        (.exit 0))
      (.seq (.block 1 (.seq (.ops [⟨.mv, [.t 45], (some 47), none⟩,
          ⟨(.iaS 18), [.t 43, .t 45], (some 48), none⟩,
          ⟨(.ld 18 true), [.t 48], (some 49), none⟩,
          ⟨(.new (.agg [.pv (.i .i64 0), .pv (.i .u32 0), .pv (.i .i64 0), .pv (.i .u32 0), .pv (.s []), .pv (.i .i64 0), .pv (.i .u32 0), .vec 8 (List.replicate 8 (.i .u32 0)), .pv (.b false), .pv (.i .i64 0), .pv (.i .u32 0)])), [], (some 14), none⟩,
          ⟨.mv, [.t 47], (some 13), none⟩,
          ⟨(.sto 18), [.t 14, .t 49], none, none⟩])
        (.seq (.ops [⟨.mv, [.t 7], (some 50), none⟩,
          ⟨(.ld 18 true), [.t 14], (some 51), none⟩,
          ⟨(.call 30), [.t 50, .t 51], (some 52), none⟩,
          ⟨.mv, [.t 52], (some 7), none⟩])
        (.seq (.ops [⟨.mv, [.t 8], (some 53), none⟩,
          ⟨.mv, [.t 0], (some 54), none⟩,
          ⟨.mv, [.t 0], (some 55), none⟩,
          ⟨.len, [.t 55], (some 56), none⟩,
          ⟨(.bin .sub), [.t 56, .c (.pv (.i .i64 1))], (some 57), none⟩,
          ⟨.mv, [.t 13], (some 58), none⟩,
          ⟨.mv, [.t 11], (some 59), none⟩,
          ⟨(.bin .add), [.t 58, .t 59], (some 60), none⟩,
          ⟨.mv, [.t 0], (some 61), none⟩,
          ⟨.len, [.t 61], (some 62), none⟩,
          ⟨(.bin .rem), [.t 60, .t 62], (some 63), none⟩,
          ⟨(.bin .sub), [.t 57, .t 63], (some 64), none⟩,
          ⟨(.iaS 18), [.t 54, .t 64], (some 65), none⟩,
          ⟨(.ld 18 true), [.t 65], (some 66), none⟩,
          ⟨(.call 30), [.t 53, .t 66], (some 67), none⟩,
          ⟨.mv, [.t 67], (some 8), none⟩])
        (.seq (.ops [⟨.mv, [.t 13], (some 68), none⟩,
          ⟨.mv, [.t 12], (some 69), none⟩,
          ⟨(.bin .leq), [.t 68, .t 69], (some 70), none⟩])
        (.ite (.t 70) (.ops [⟨.mv, [.t 9], (some 71), none⟩,
            ⟨(.ld 18 true), [.t 14], (some 72), none⟩,
            ⟨(.call 30), [.t 71, .t 72], (some 73), none⟩,
            ⟨.mv, [.t 73], (some 9), none⟩])
          (.ops [⟨.mv, [.t 10], (some 74), none⟩,
            ⟨(.ld 18 true), [.t 14], (some 75), none⟩,
            ⟨(.call 30), [.t 74, .t 75], (some 76), none⟩,
            ⟨.mv, [.t 76], (some 10), none⟩])))))))
      (.ops [⟨(.bin .add), [.t 45, .c (.pv (.i .i64 1))], (some 77), none⟩,
        ⟨.mv, [.t 77], (some 45), none⟩])))))))
  (.seq (.ops [⟨.mv, [.t 9], (some 78), none⟩,
    ⟨.mv, [.t 10], (some 79), none⟩,
    ⟨(.call 21), [.t 78, .t 79], (some 80), none⟩,
    ⟨.mv, [.t 80], (some 15), none⟩])
  (.seq (.ops [⟨.mv, [.t 7], (some 81), none⟩,
    ⟨.mv, [.t 8], (some 82), none⟩,
    ⟨(.call 15), [.t 81, .t 82], (some 83), none⟩,
    ⟨.mv, [.t 83], (some 84), none⟩,
    ⟨.mv, [.t 7], (some 85), (some (84, true))⟩,
    ⟨.mv, [.t 15], (some 86), (some (84, true))⟩,
    ⟨(.call 15), [.t 85, .t 86], (some 87), (some (84, true))⟩,
    ⟨.pick, [.t 84, .t 87, .c (.pv (.b false))], (some 88), none⟩,
    ⟨.mv, [.t 88], (some 89), none⟩,
    ⟨.mv, [.t 7], (some 90), (some (89, true))⟩,
    ⟨.mv, [.t 10], (some 91), (some (89, true))⟩,
    ⟨.mv, [.t 9], (some 92), (some (89, true))⟩,
    ⟨(.call 21), [.t 91, .t 92], (some 93), (some (89, true))⟩,
    ⟨(.call 15), [.t 90, .t 93], (some 94), (some (89, true))⟩,
    ⟨.pick, [.t 89, .t 94, .c (.pv (.b false))], (some 95), none⟩,
    ⟨.mv, [.t 95], (some 96), none⟩,
    ⟨.mv, [.t 7], (some 97), (some (96, true))⟩,
    ⟨.mv, [.t 15], (some 98), (some (96, true))⟩,
    ⟨.mv, [.t 9], (some 99), (some (96, true))⟩,
    ⟨(.call 21), [.t 98, .t 99], (some 100), (some (96, true))⟩,
    ⟨(.call 15), [.t 97, .t 100], (some 101), (some (96, true))⟩,
    ⟨.pick, [.t 96, .t 101, .c (.pv (.b false))], (some 102), none⟩,
    ⟨.mv, [.t 102], (some 103), none⟩,
    ⟨.mv, [.t 7], (some 104), (some (103, true))⟩,
    ⟨(.call 22), [.t 104], (some 105), (some (103, true))⟩,
    ⟨.pick, [.t 103, .t 105, .c (.pv (.b false))], (some 106), none⟩,
    ⟨.mv, [.t 106], (some 6), none⟩])
  .ret)))))))
theorem fn7 : fnOf Tryd.prog 7 = some (107, [.t 6], ir7) := by kernel_rfl
def ir10 : C :=
  (.seq (.ops [⟨.mv, [.c (.pv (.b false))], (some 0), none⟩])
  (.seq (.ops [⟨(.call 35), [.c (.pv (.i .i64 2)), .c (.pv (.i .u32 1))], (some 3), none⟩,
    ⟨(.bld [2, 2, 1, 2, 8]), [.t 3, .c (.agg [.pv (.i .i64 0), .pv (.i .u32 0)]), .c (.pv (.s [97])), .c (.agg [.pv (.i .i64 0), .pv (.i .u32 0)]), .c (.vec 8 (List.replicate 8 (.i .u32 0)))], (some 4), none⟩,
    ⟨(.call 23), [.c (.pv (.sl true 0 [])), .t 4], (some 5), none⟩,
    ⟨(.call 35), [.c (.pv (.i .i64 1)), .c (.pv (.i .u32 1))], (some 6), none⟩,
    ⟨(.bld [2, 2, 1, 2, 8]), [.t 6, .c (.agg [.pv (.i .i64 0), .pv (.i .u32 0)]), .c (.pv (.s [97])), .c (.agg [.pv (.i .i64 0), .pv (.i .u32 0)]), .c (.vec 8 (List.replicate 8 (.i .u32 0)))], (some 7), none⟩,
    ⟨(.call 23), [.t 5, .t 7], (some 8), none⟩,
    ⟨.mv, [.t 8], (some 1), none⟩])
  (.seq (.ops [⟨.mv, [.t 1], (some 9), none⟩,
    ⟨(.bld [1, 1]), [.c (.pv (.i .i64 0)), .c (.pv (.i .u32 0))], (some 10), none⟩,
    ⟨(.call 14), [.t 9, .t 10], (some 11), none⟩,
    ⟨(.call 13), [.t 11], (some 12), none⟩,
    ⟨.mv, [.t 12], (some 2), none⟩])
  (.seq (.ops [⟨.mv, [.t 1], (some 13), none⟩,
    ⟨.len, [.t 13], (some 14), none⟩,
    ⟨(.bin .eql), [.t 14, .c (.pv (.i .i64 2))], (some 15), none⟩,
    ⟨.mv, [.t 15], (some 16), none⟩,
    ⟨.mv, [.t 2], (some 17), (some (16, true))⟩,
    ⟨.len, [.t 17], (some 18), (some (16, true))⟩,
    ⟨(.bin .eql), [.t 18, .c (.pv (.i .i64 2))], (some 19), (some (16, true))⟩,
    ⟨.pick, [.t 16, .t 19, .c (.pv (.b false))], (some 20), none⟩,
    ⟨.mv, [.t 20], (some 21), none⟩,
    ⟨.mv, [.t 2], (some 22), (some (21, true))⟩,
    ⟨(.iaS 1), [.t 22, .c (.pv (.i .i64 0))], (some 23), (some (21, true))⟩,
    ⟨(.ld 1 false), [.t 23], (some 24), (some (21, true))⟩,
    ⟨(.bin .eql), [.t 24, .c (.pv (.s [97]))], (some 25), (some (21, true))⟩,
    ⟨.pick, [.t 21, .t 25, .c (.pv (.b false))], (some 26), none⟩,
    ⟨.mv, [.t 26], (some 27), none⟩,
    ⟨.mv, [.t 2], (some 28), (some (27, true))⟩,
    ⟨(.iaS 1), [.t 28, .c (.pv (.i .i64 1))], (some 29), (some (27, true))⟩,
    ⟨(.ld 1 false), [.t 29], (some 30), (some (27, true))⟩,
    ⟨(.bin .eql), [.t 30, .c (.pv (.s [97, 126, 50, 46, 49]))], (some 31), (some (27, true))⟩,
    ⟨.pick, [.t 27, .t 31, .c (.pv (.b false))], (some 32), none⟩,
    ⟨.mv, [.t 32], (some 33), none⟩,
    ⟨.mv, [.t 1], (some 34), (some (33, true))⟩,
    ⟨(.iaS 15), [.t 34, .c (.pv (.i .i64 0))], (some 35), (some (33, true))⟩,
    ⟨(.ld 15 true), [.t 35], (some 36), (some (33, true))⟩,
    ⟨(.call 28), [.t 36], (some 37), (some (33, true))⟩,
    ⟨.pick, [.t 33, .t 37, .c (.pv (.b false))], (some 38), none⟩,
    ⟨.mv, [.t 38], (some 0), none⟩])
  .ret))))
theorem fn10 : fnOf Tryd.prog 10 = some (39, [.t 0], ir10) := by kernel_rfl
def ir11 : C :=
  (.seq (.ops [⟨.mv, [.c (.pv (.b false))], (some 2), none⟩])
  (.seq (.seq (.ops [⟨.mv, [.t 0], (some 5), none⟩,
    ⟨.len, [.t 5], (some 6), none⟩,
    ⟨(.bin .gtr), [.t 6, .c (.pv (.i .i64 40))], (some 7), none⟩,
    ⟨.mv, [.t 7], (some 8), none⟩,
    ⟨.mv, [.t 0], (some 9), (some (8, false))⟩,
    ⟨(.call 22), [.t 9], (some 10), (some (8, false))⟩,
    ⟨(.un .not), [.t 10], (some 11), (some (8, false))⟩,
    ⟨.pick, [.t 8, .c (.pv (.b true)), .t 11], (some 12), none⟩])
  (.ite (.t 12) (.seq (.ops [⟨.mv, [.c (.pv (.b false))], (some 2), none⟩])
    .ret)
    .skip))
  (.seq (.seq (.ops [⟨.mv, [.t 0], (some 13), none⟩,
    ⟨.len, [.t 13], (some 14), none⟩,
    ⟨.mv, [.c (.pv (.i .i64 0))], (some 15), none⟩])
  (.block 0 (.loop (.seq (.ops [⟨(.bin .lss), [.t 15, .t 14], (some 16), none⟩])
      (.seq (.ite (.t 16) .skip
        (.exit 0))
      (.seq (.block 1 (.seq (.ops [⟨(.iaS 15), [.t 13, .t 15], (some 17), none⟩,
          ⟨(.ld 15 true), [.t 17], (some 18), none⟩,
          ⟨(.new (.agg [.pv (.i .i64 0), .pv (.i .u32 0), .pv (.i .i64 0), .pv (.i .u32 0), .pv (.s []), .pv (.i .i64 0), .pv (.i .u32 0), .vec 8 (List.replicate 8 (.i .u32 0))])), [], (some 4), none⟩,
          ⟨(.sto 15), [.t 4, .t 18], none, none⟩])
        (.seq (.ops [⟨(.fa 4), [.t 4], (some 19), none⟩,
          ⟨(.ld 1 false), [.t 19], (some 20), none⟩,
          ⟨.lenS, [.t 20], (some 21), none⟩,
          ⟨(.bin .gtr), [.t 21, .c (.pv (.i .i64 40))], (some 22), none⟩])
        (.ite (.t 22) (.seq (.ops [⟨.mv, [.c (.pv (.b false))], (some 2), none⟩])
          .ret)
          .skip))))
      (.ops [⟨(.bin .add), [.t 15, .c (.pv (.i .i64 1))], (some 23), none⟩,
        ⟨.mv, [.t 23], (some 15), none⟩])))))))
  (.seq (.ops [⟨.mv, [.c (.pv (.b true))], (some 2), none⟩])
  .ret))))
theorem fn11 : fnOf Tryd.prog 11 = some (24, [.t 2], ir11) := by kernel_rfl
def ir12 : C :=
  (.seq (.ops [⟨.box, [.t 0], (some 1), none⟩,
    ⟨.mv, [.c (.pv (.b false))], (some 2), none⟩])
  (.seq (.seq (.ops [⟨.mv, [.c (.pv (.i .i64 0))], (some 3), none⟩])
  (.block 0 (.loop (.seq (.seq (.ops [⟨.mv, [.t 3], (some 4), none⟩,
        ⟨(.bin .lss), [.t 4, .c (.pv (.i .i64 8))], (some 5), none⟩])
      (.ite (.t 5) .skip
        (.exit 0)))
      (.seq (.block 1 (.seq (.ops [⟨.mv, [.t 3], (some 8), none⟩,
          ⟨(.fa 7), [.t 1], (some 9), none⟩,
          ⟨(.iaA 8 1), [.t 9, .t 8], (some 10), none⟩,
          ⟨(.ld 1 false), [.t 10], (some 11), none⟩,
          ⟨(.bin .neq), [.t 11, .c (.pv (.i .u32 0))], (some 12), none⟩])
        (.ite (.t 12) (.seq (.ops [⟨.mv, [.c (.pv (.b false))], (some 2), none⟩])
          .ret)
          .skip)))
      (.ops [⟨.mv, [.t 3], (some 6), none⟩,
        ⟨(.bin .add), [.t 6, .c (.pv (.i .i64 1))], (some 7), none⟩,
        ⟨.mv, [.t 7], (some 3), none⟩]))))))
  (.seq (.ops [⟨.mv, [.c (.pv (.b true))], (some 2), none⟩])
  .ret)))
theorem fn12 : fnOf Tryd.prog 12 = some (13, [.t 2], ir12) := by kernel_rfl
def ir13 : C :=
  (.seq (.ops [⟨.mv, [.c (.pv (.sl true 0 []))], (some 2), none⟩])
  (.seq (.ops [⟨.mv, [.c (.pv (.sl true 0 []))], (some 3), none⟩])
  (.seq (.seq (.ops [⟨.mv, [.t 0], (some 6), none⟩,
    ⟨.len, [.t 6], (some 7), none⟩,
    ⟨.mv, [.c (.pv (.i .i64 0))], (some 8), none⟩])
  (.block 0 (.loop (.seq (.ops [⟨(.bin .lss), [.t 8, .t 7], (some 9), none⟩])
      (.seq (.ite (.t 9) .skip
        (.exit 0))
      (.seq (.block 1 (.seq (.ops [⟨.mv, [.t 8], (some 10), none⟩,
          ⟨(.iaS 15), [.t 6, .t 8], (some 11), none⟩,
          ⟨(.ld 15 true), [.t 11], (some 12), none⟩,
          ⟨(.new (.agg [.pv (.i .i64 0), .pv (.i .u32 0), .pv (.i .i64 0), .pv (.i .u32 0), .pv (.s []), .pv (.i .i64 0), .pv (.i .u32 0), .vec 8 (List.replicate 8 (.i .u32 0))])), [], (some 5), none⟩,
          ⟨.mv, [.t 10], (some 4), none⟩,
          ⟨(.sto 15), [.t 5, .t 12], none, none⟩])
        (.seq (.any [] [(⟨.mv, [.t 4], (some 13), none⟩, 0, []),
          (⟨(.bin .gtr), [.t 13, .c (.pv (.i .i64 0))], (some 14), none⟩, 0, []),
          (⟨.mv, [.t 14], (some 15), none⟩, 0, []),
          (⟨.mv, [.t 0], (some 16), (some (15, true))⟩, 0, []),
          (⟨.mv, [.t 4], (some 17), (some (15, true))⟩, 0, []),
          (⟨(.bin .sub), [.t 17, .c (.pv (.i .i64 1))], (some 18), (some (15, true))⟩, 0, []),
          (⟨(.iaS 15), [.t 16, .t 18], (some 19), (some (15, true))⟩, 1, []),
          (⟨(.fa 4), [.t 19], (some 20), (some (15, true))⟩, 0, []),
          (⟨(.ld 1 false), [.t 20], (some 21), (some (15, true))⟩, 1, []),
          (⟨(.fa 4), [.t 5], (some 22), (some (15, true))⟩, 0, []),
          (⟨(.ld 1 false), [.t 22], (some 23), (some (15, true))⟩, 1, []),
          (⟨(.bin .eql), [.t 21, .t 23], (some 24), (some (15, true))⟩, 0, []),
          (⟨.pick, [.t 15, .t 24, .c (.pv (.b false))], (some 25), none⟩, 0, [])])
        (.ite (.t 25) (.ops [⟨.mv, [.t 3], (some 26), none⟩,
            ⟨(.fa 4), [.t 5], (some 27), none⟩,
            ⟨(.ld 1 false), [.t 27], (some 28), none⟩,
            ⟨(.fa 0), [.t 5], (some 29), none⟩,
            ⟨(.ld 2 true), [.t 29], (some 30), none⟩,
            ⟨(.call 36), [.t 28, .t 30], (some 31), none⟩,
            ⟨(.bsl 1), [.t 31], (some 32), none⟩,
            ⟨(.app 1 16), [.t 26, .t 32], (some 33), none⟩,
            ⟨.mv, [.t 33], (some 3), none⟩])
          (.ops [⟨.mv, [.t 3], (some 34), none⟩,
            ⟨(.fa 4), [.t 5], (some 35), none⟩,
            ⟨(.ld 1 false), [.t 35], (some 36), none⟩,
            ⟨(.bsl 1), [.t 36], (some 37), none⟩,
            ⟨(.app 1 16), [.t 34, .t 37], (some 38), none⟩,
            ⟨.mv, [.t 38], (some 3), none⟩])))))
      (.ops [⟨(.bin .add), [.t 8, .c (.pv (.i .i64 1))], (some 39), none⟩,
        ⟨.mv, [.t 39], (some 8), none⟩])))))))
  (.seq (.ops [⟨.mv, [.t 3], (some 40), none⟩,
    ⟨.mv, [.t 40], (some 2), none⟩])
  .ret))))
theorem fn13 : fnOf Tryd.prog 13 = some (41, [.t 2], ir13) := by kernel_rfl
def ir14 : C :=
  (.seq (.ops [⟨.box, [.t 1], (some 3), none⟩,
    ⟨.mv, [.c (.pv (.sl true 0 []))], (some 4), none⟩])
  (.seq (.ops [⟨.mv, [.c (.pv (.sl true 0 []))], (some 5), none⟩])
  (.seq (.seq (.ops [⟨.mv, [.t 0], (some 8), none⟩,
    ⟨.len, [.t 8], (some 9), none⟩,
    ⟨.mv, [.c (.pv (.i .i64 0))], (some 10), none⟩])
  (.block 0 (.loop (.seq (.ops [⟨(.bin .lss), [.t 10, .t 9], (some 11), none⟩])
      (.seq (.ite (.t 11) .skip
        (.exit 0))
      (.seq (.block 1 (.seq (.ops [⟨(.iaS 15), [.t 8, .t 10], (some 12), none⟩,
          ⟨(.ld 15 true), [.t 12], (some 13), none⟩,
          ⟨(.new (.agg [.pv (.i .i64 0), .pv (.i .u32 0), .pv (.i .i64 0), .pv (.i .u32 0), .pv (.s []), .pv (.i .i64 0), .pv (.i .u32 0), .vec 8 (List.replicate 8 (.i .u32 0))])), [], (some 7), none⟩,
          ⟨(.sto 15), [.t 7, .t 13], none, none⟩])
        (.seq (.ops [⟨(.fa 2), [.t 7], (some 14), none⟩,
          ⟨(.ld 2 true), [.t 14], (some 15), none⟩,
          ⟨(.ld 2 true), [.t 3], (some 16), none⟩,
          ⟨(.eqv false [.int .i64, .int .u32]), [.t 15, .t 16], (some 17), none⟩,
          ⟨.mv, [.t 17], (some 18), none⟩,
          ⟨(.ld 15 true), [.t 7], (some 19), (some (18, true))⟩,
          ⟨(.call 28), [.t 19], (some 20), (some (18, true))⟩,
          ⟨.pick, [.t 18, .t 20, .c (.pv (.b false))], (some 21), none⟩])
        (.ite (.t 21) (.ops [⟨.mv, [.t 5], (some 22), none⟩,
            ⟨(.ld 15 true), [.t 7], (some 23), none⟩,
            ⟨(.bsl 15), [.t 23], (some 24), none⟩,
            ⟨(.app 15 96), [.t 22, .t 24], (some 25), none⟩,
            ⟨.mv, [.t 25], (some 5), none⟩])
          .skip))))
      (.ops [⟨(.bin .add), [.t 10, .c (.pv (.i .i64 1))], (some 26), none⟩,
        ⟨.mv, [.t 26], (some 10), none⟩])))))))
  (.seq (.ops [⟨.mv, [.t 5], (some 27), none⟩,
    ⟨(.call 37), [.t 27, .c (.fn (.func 38) [])], (some 28), none⟩])
  (.seq (.ops [⟨.mv, [.t 5], (some 29), none⟩,
    ⟨.mv, [.t 29], (some 4), none⟩])
  .ret)))))
theorem fn14 : fnOf Tryd.prog 14 = some (30, [.t 4], ir14) := by kernel_rfl
def ir15 : C :=
  (.seq (.ops [⟨.mv, [.c (.pv (.b false))], (some 4), none⟩])
  (.seq (.seq (.ops [⟨.mv, [.t 0], (some 6), none⟩,
    ⟨.len, [.t 6], (some 7), none⟩,
    ⟨.mv, [.t 1], (some 8), none⟩,
    ⟨.len, [.t 8], (some 9), none⟩,
    ⟨(.bin .neq), [.t 7, .t 9], (some 10), none⟩])
  (.ite (.t 10) (.seq (.ops [⟨.mv, [.c (.pv (.b false))], (some 4), none⟩])
    .ret)
    .skip))
  (.seq (.seq (.ops [⟨.mv, [.c (.pv (.i .i64 0))], (some 5), none⟩])
  (.block 0 (.loop (.seq (.seq (.ops [⟨.mv, [.t 5], (some 11), none⟩,
        ⟨.mv, [.t 0], (some 12), none⟩,
        ⟨.len, [.t 12], (some 13), none⟩,
        ⟨(.bin .lss), [.t 11, .t 13], (some 14), none⟩])
      (.ite (.t 14) .skip
        (.exit 0)))
      (.seq (.block 1 (.seq (.any [] [(⟨.mv, [.t 0], (some 17), none⟩, 0, []),
          (⟨.mv, [.t 5], (some 18), none⟩, 0, []),
          (⟨(.iaS 15), [.t 17, .t 18], (some 19), none⟩, 1, []),
          (⟨(.ld 15 true), [.t 19], (some 20), none⟩, 1, []),
          (⟨.mv, [.t 1], (some 21), none⟩, 0, []),
          (⟨.mv, [.t 5], (some 22), none⟩, 0, []),
          (⟨(.iaS 15), [.t 21, .t 22], (some 23), none⟩, 1, []),
          (⟨(.ld 15 true), [.t 23], (some 24), none⟩, 1, []),
          (⟨(.eqv true [.int .i64, .int .u32, .int .i64, .int .u32, .str, .int .i64, .int .u32, .int .u32, .int .u32, .int .u32, .int .u32, .int .u32, .int .u32, .int .u32, .int .u32]), [.t 20, .t 24], (some 25), none⟩, 0, [])])
        (.ite (.t 25) (.seq (.ops [⟨.mv, [.c (.pv (.b false))], (some 4), none⟩])
          .ret)
          .skip)))
      (.ops [⟨.mv, [.t 5], (some 15), none⟩,
        ⟨(.bin .add), [.t 15, .c (.pv (.i .i64 1))], (some 16), none⟩,
        ⟨.mv, [.t 16], (some 5), none⟩]))))))
  (.seq (.ops [⟨.mv, [.c (.pv (.b true))], (some 4), none⟩])
  .ret))))
theorem fn15 : fnOf Tryd.prog 15 = some (26, [.t 4], ir15) := by kernel_rfl
def ir21 : C :=
  (.seq (.ops [⟨.mv, [.c (.pv (.sl true 0 []))], (some 4), none⟩])
  (.seq (.ops [⟨.mv, [.t 0], (some 10), none⟩,
    ⟨(.call 42), [.t 10], (some 11), none⟩,
    ⟨.mv, [.t 11], (some 5), none⟩])
  (.seq (.seq (.ops [⟨.mv, [.t 1], (some 12), none⟩,
    ⟨.len, [.t 12], (some 13), none⟩,
    ⟨.mv, [.c (.pv (.i .i64 0))], (some 14), none⟩])
  (.block 0 (.loop (.seq (.ops [⟨(.bin .lss), [.t 14, .t 13], (some 15), none⟩])
      (.seq (.ite (.t 15) .skip
        (.exit 0))
      (.seq (.block 1 (.seq (.ops [⟨(.iaS 15), [.t 12, .t 14], (some 16), none⟩,
          ⟨(.ld 15 true), [.t 16], (some 17), none⟩,
          ⟨(.new (.agg [.pv (.i .i64 0), .pv (.i .u32 0), .pv (.i .i64 0), .pv (.i .u32 0), .pv (.s []), .pv (.i .i64 0), .pv (.i .u32 0), .vec 8 (List.replicate 8 (.i .u32 0))])), [], (some 7), none⟩,
          ⟨(.sto 15), [.t 7, .t 17], none, none⟩])
        (.seq (.ops [⟨.mv, [.t 5], (some 19), none⟩,
          ⟨(.fa 0), [.t 7], (some 20), none⟩,
          ⟨(.ld 2 true), [.t 20], (some 21), none⟩,
          ⟨(.call 43), [.t 19, .t 21], (some 22), none⟩,
          ⟨.mv, [.t 22], (some 18), none⟩,
          ⟨(.ext 0), [.t 18], (some 23), none⟩,
          ⟨(.ext 1), [.t 18], (some 24), none⟩,
          ⟨.mv, [.t 23], (some 8), none⟩,
          ⟨.mv, [.t 24], (some 9), none⟩])
        (.seq (.ops [⟨.mv, [.t 9], (some 25), none⟩])
        (.ite (.t 25) (.any [35] [(⟨.mv, [.t 5], (some 26), none⟩, 0, [35]),
            (⟨.mv, [.t 8], (some 27), none⟩, 0, [35]),
            (⟨.mv, [.t 5], (some 28), none⟩, 0, [35]),
            (⟨.mv, [.t 8], (some 29), none⟩, 0, [35]),
            (⟨(.iaS 15), [.t 28, .t 29], (some 30), none⟩, 1, [35]),
            (⟨(.fa 7), [.t 30], (some 31), none⟩, 0, [35]),
            (⟨(.ld 8 true), [.t 31], (some 32), none⟩, 1, [35]),
            (⟨(.fa 7), [.t 7], (some 33), none⟩, 0, [35]),
            (⟨(.ld 8 true), [.t 33], (some 34), none⟩, 1, [35]),
            (⟨(.call 44), [.t 32, .t 34], (some 35), none⟩, 1, [35]),
            (⟨(.iaS 15), [.t 26, .t 27], (some 36), none⟩, 1, []),
            (⟨(.fa 7), [.t 36], (some 37), none⟩, 0, []),
            (⟨(.sto 8), [.t 37, .t 35], none, none⟩, 2, [])])
          (.ops [⟨.mv, [.t 5], (some 38), none⟩,
            ⟨.mv, [.t 8], (some 39), none⟩,
            ⟨(.ld 15 true), [.t 7], (some 40), none⟩,
            ⟨(.bsl 15), [.t 40], (some 41), none⟩,
            ⟨(.call 45), [.t 38, .t 39, .t 41], (some 42), none⟩,
            ⟨.mv, [.t 42], (some 5), none⟩]))))))
      (.ops [⟨(.bin .add), [.t 14, .c (.pv (.i .i64 1))], (some 43), none⟩,
        ⟨.mv, [.t 43], (some 14), none⟩])))))))
  (.seq (.ops [⟨.mv, [.t 5], (some 44), none⟩,
    ⟨.mv, [.t 44], (some 4), none⟩])
  .ret))))
theorem fn21 : fnOf Tryd.prog 21 = some (45, [.t 4], ir21) := by kernel_rfl
def ir22 : C :=
  (.seq (.ops [⟨.mv, [.c (.pv (.b false))], (some 2), none⟩])
  (.seq (.seq (.ops [⟨.mv, [.c (.pv (.i .i64 1))], (some 3), none⟩])
  (.block 0 (.loop (.seq (.seq (.ops [⟨.mv, [.t 3], (some 4), none⟩,
        ⟨.mv, [.t 0], (some 5), none⟩,
        ⟨.len, [.t 5], (some 6), none⟩,
        ⟨(.bin .lss), [.t 4, .t 6], (some 7), none⟩])
      (.ite (.t 7) .skip
        (.exit 0)))
      (.seq (.block 1 (.seq (.any [21] [(⟨.mv, [.t 0], (some 10), none⟩, 0, [21]),
          (⟨.mv, [.t 3], (some 11), none⟩, 0, [21]),
          (⟨(.bin .sub), [.t 11, .c (.pv (.i .i64 1))], (some 12), none⟩, 0, [21]),
          (⟨(.iaS 15), [.t 10, .t 12], (some 13), none⟩, 1, [21]),
          (⟨(.fa 0), [.t 13], (some 14), none⟩, 0, [21]),
          (⟨(.ld 2 true), [.t 14], (some 15), none⟩, 1, [21]),
          (⟨.mv, [.t 0], (some 16), none⟩, 0, [21]),
          (⟨.mv, [.t 3], (some 17), none⟩, 0, [21]),
          (⟨(.iaS 15), [.t 16, .t 17], (some 18), none⟩, 1, [21]),
          (⟨(.fa 0), [.t 18], (some 19), none⟩, 0, [21]),
          (⟨(.ld 2 true), [.t 19], (some 20), none⟩, 1, [21]),
          (⟨(.call 46), [.t 15, .t 20], (some 21), none⟩, 3, [21]),
          (⟨(.un .not), [.t 21], (some 22), none⟩, 0, [])])
        (.ite (.t 22) (.seq (.ops [⟨.mv, [.c (.pv (.b false))], (some 2), none⟩])
          .ret)
          .skip)))
      (.ops [⟨.mv, [.t 3], (some 8), none⟩,
        ⟨(.bin .add), [.t 8, .c (.pv (.i .i64 1))], (some 9), none⟩,
        ⟨.mv, [.t 9], (some 3), none⟩]))))))
  (.seq (.ops [⟨.mv, [.c (.pv (.b true))], (some 2), none⟩])
  .ret)))
theorem fn22 : fnOf Tryd.prog 22 = some (23, [.t 2], ir22) := by kernel_rfl
def ir23 : C :=
  (.seq (.ops [⟨.box, [.t 1], (some 3), none⟩,
    ⟨.mv, [.c (.pv (.sl true 0 []))], (some 4), none⟩])
  (.seq (.ops [⟨.mv, [.t 0], (some 8), none⟩,
    ⟨(.fa 0), [.t 3], (some 9), none⟩,
    ⟨(.ld 2 true), [.t 9], (some 10), none⟩,
    ⟨(.call 43), [.t 8, .t 10], (some 11), none⟩,
    ⟨.mv, [.t 11], (some 7), none⟩,
    ⟨(.ext 0), [.t 7], (some 12), none⟩,
    ⟨(.ext 1), [.t 7], (some 13), none⟩,
    ⟨.mv, [.t 12], (some 5), none⟩,
    ⟨.mv, [.t 13], (some 6), none⟩])
  (.seq (.seq (.ops [⟨.mv, [.t 6], (some 14), none⟩])
  (.ite (.t 14) (.seq (.ops [⟨.mv, [.t 0], (some 15), none⟩,
      ⟨(.call 42), [.t 15], (some 16), none⟩,
      ⟨.mv, [.t 16], (some 4), none⟩])
    .ret)
    .skip))
  (.seq (.any [18, 21, 22] [(⟨.mv, [.t 0], (some 17), none⟩, 0, [18, 21, 22]),
    (⟨(.call 42), [.t 17], (some 18), none⟩, 1, [18, 21, 22]),
    (⟨.mv, [.t 5], (some 19), none⟩, 0, [18, 21, 22]),
    (⟨(.ld 15 true), [.t 3], (some 20), none⟩, 1, [18, 21, 22]),
    (⟨(.bsl 15), [.t 20], (some 21), none⟩, 1, [18, 21, 22]),
    (⟨(.call 45), [.t 18, .t 19, .t 21], (some 22), none⟩, 3, [22]),
    (⟨.mv, [.t 22], (some 4), none⟩, 0, [])])
  .ret))))
theorem fn23 : fnOf Tryd.prog 23 = some (23, [.t 4], ir23) := by kernel_rfl
def ir24 : C :=
  (.seq (.ops [⟨.box, [.t 1], (some 3), none⟩,
    ⟨.mv, [.c (.pv (.sl true 0 []))], (some 4), none⟩])
  (.seq (.seq (.ops [⟨.mv, [.t 0], (some 5), none⟩,
    ⟨(.fa 0), [.t 3], (some 6), none⟩,
    ⟨(.ld 2 true), [.t 6], (some 7), none⟩,
    ⟨(.call 47), [.t 5, .t 7], (some 8), none⟩])
  (.ite (.t 8) (.seq (.ops [⟨.mv, [.t 0], (some 9), none⟩,
      ⟨.mv, [.t 9], (some 4), none⟩])
    .ret)
    .skip))
  (.seq (.ops [⟨.mv, [.t 0], (some 10), none⟩,
    ⟨(.ld 15 true), [.t 3], (some 11), none⟩,
    ⟨(.call 48), [.t 10, .t 11], (some 12), none⟩,
    ⟨.mv, [.t 12], (some 4), none⟩])
  .ret)))
theorem fn24 : fnOf Tryd.prog 24 = some (13, [.t 4], ir24) := by kernel_rfl
def ir25 : C :=
  (.seq (.ops [⟨.box, [.t 1], (some 4), none⟩,
    ⟨.box, [.t 2], (some 5), none⟩,
    ⟨.mv, [.c (.pv (.sl true 0 []))], (some 6), none⟩])
  (.seq (.ops [⟨.mv, [.t 0], (some 10), none⟩,
    ⟨(.call 42), [.t 10], (some 11), none⟩,
    ⟨.mv, [.t 11], (some 7), none⟩])
  (.seq (.seq (.ops [⟨.mv, [.t 0], (some 13), none⟩,
    ⟨(.ld 2 true), [.t 4], (some 14), none⟩,
    ⟨(.call 43), [.t 13, .t 14], (some 15), none⟩,
    ⟨.mv, [.t 15], (some 12), none⟩,
    ⟨(.ext 0), [.t 12], (some 16), none⟩,
    ⟨(.ext 1), [.t 12], (some 17), none⟩,
    ⟨.mv, [.t 16], (some 8), none⟩,
    ⟨.mv, [.t 17], (some 9), none⟩])
  (.seq (.ops [⟨.mv, [.t 9], (some 18), none⟩])
  (.ite (.t 18) (.any [27] [(⟨.mv, [.t 7], (some 19), none⟩, 0, [27]),
      (⟨.mv, [.t 8], (some 20), none⟩, 0, [27]),
      (⟨.mv, [.t 7], (some 21), none⟩, 0, [27]),
      (⟨.mv, [.t 8], (some 22), none⟩, 0, [27]),
      (⟨(.iaS 15), [.t 21, .t 22], (some 23), none⟩, 1, [27]),
      (⟨(.fa 7), [.t 23], (some 24), none⟩, 0, [27]),
      (⟨(.ld 8 true), [.t 24], (some 25), none⟩, 1, [27]),
      (⟨(.ld 2 true), [.t 5], (some 26), none⟩, 1, [27]),
      (⟨(.call 49), [.t 25, .t 26], (some 27), none⟩, 1, [27]),
      (⟨(.iaS 15), [.t 19, .t 20], (some 28), none⟩, 1, []),
      (⟨(.fa 7), [.t 28], (some 29), none⟩, 0, []),
      (⟨(.sto 8), [.t 29, .t 27], none, none⟩, 2, [])])
    .skip)))
  (.seq (.ops [⟨.mv, [.t 7], (some 30), none⟩,
    ⟨.mv, [.t 30], (some 6), none⟩])
  .ret))))
theorem fn25 : fnOf Tryd.prog 25 = some (31, [.t 6], ir25) := by kernel_rfl
def ir26 : C :=
  (.seq (.ops [⟨.box, [.t 1], (some 4), none⟩,
    ⟨.box, [.t 2], (some 5), none⟩,
    ⟨.mv, [.c (.pv (.sl true 0 []))], (some 6), none⟩])
  (.seq (.ops [⟨.mv, [.c (.pv (.sl true 0 []))], (some 7), none⟩])
  (.seq (.seq (.ops [⟨.mv, [.c (.pv (.i .i64 0))], (some 8), none⟩])
  (.block 0 (.loop (.seq (.seq (.ops [⟨.mv, [.t 8], (some 10), none⟩,
        ⟨.mv, [.t 0], (some 11), none⟩,
        ⟨.len, [.t 11], (some 12), none⟩,
        ⟨(.bin .lss), [.t 10, .t 12], (some 13), none⟩])
      (.ite (.t 13) .skip
        (.exit 0)))
      (.seq (.block 1 (.seq (.ops [⟨.mv, [.t 0], (some 16), none⟩,
          ⟨.mv, [.t 8], (some 17), none⟩,
          ⟨(.iaS 15), [.t 16, .t 17], (some 18), none⟩,
          ⟨(.ld 15 true), [.t 18], (some 19), none⟩,
          ⟨(.new (.agg [.pv (.i .i64 0), .pv (.i .u32 0), .pv (.i .i64 0), .pv (.i .u32 0), .pv (.s []), .pv (.i .i64 0), .pv (.i .u32 0), .vec 8 (List.replicate 8 (.i .u32 0))])), [], (some 9), none⟩,
          ⟨(.sto 15), [.t 9, .t 19], none, none⟩])
        (.seq (.seq (.ops [⟨(.fa 0), [.t 9], (some 20), none⟩,
          ⟨(.ld 2 true), [.t 20], (some 21), none⟩,
          ⟨(.ld 2 true), [.t 4], (some 22), none⟩,
          ⟨(.eqv false [.int .i64, .int .u32]), [.t 21, .t 22], (some 23), none⟩])
        (.ite (.t 23) (.ops [⟨(.fa 7), [.t 9], (some 24), none⟩,
            ⟨(.ld 8 true), [.t 24], (some 25), none⟩,
            ⟨(.ld 2 true), [.t 5], (some 26), none⟩,
            ⟨(.call 50), [.t 25, .t 26], (some 27), none⟩,
            ⟨(.fa 7), [.t 9], (some 28), none⟩,
            ⟨(.sto 8), [.t 28, .t 27], none, none⟩])
          .skip))
        (.ops [⟨.mv, [.t 7], (some 29), none⟩,
          ⟨(.ld 15 true), [.t 9], (some 30), none⟩,
          ⟨(.bsl 15), [.t 30], (some 31), none⟩,
          ⟨(.app 15 96), [.t 29, .t 31], (some 32), none⟩,
          ⟨.mv, [.t 32], (some 7), none⟩]))))
      (.ops [⟨.mv, [.t 8], (some 14), none⟩,
        ⟨(.bin .add), [.t 14, .c (.pv (.i .i64 1))], (some 15), none⟩,
        ⟨.mv, [.t 15], (some 8), none⟩]))))))
  (.seq (.ops [⟨.mv, [.t 7], (some 33), none⟩,
    ⟨.mv, [.t 33], (some 6), none⟩])
  .ret))))
theorem fn26 : fnOf Tryd.prog 26 = some (34, [.t 6], ir26) := by kernel_rfl
def ir27 : C :=
  (.seq (.ops [⟨.mv, [.c (.pv (.sl true 0 []))], (some 4), none⟩])
  (.seq (.seq (.ops [⟨.mv, [.c (.pv (.i .i64 0))], (some 5), none⟩])
  (.block 0 (.loop (.seq (.seq (.ops [⟨.mv, [.t 5], (some 6), none⟩,
        ⟨.mv, [.t 1], (some 7), none⟩,
        ⟨.len, [.t 7], (some 8), none⟩,
        ⟨(.bin .lss), [.t 6, .t 8], (some 9), none⟩])
      (.ite (.t 9) .skip
        (.exit 0)))
      (.seq (.block 1 (.ops [⟨.mv, [.t 0], (some 12), none⟩,
          ⟨.mv, [.t 1], (some 13), none⟩,
          ⟨.mv, [.t 5], (some 14), none⟩,
          ⟨(.iaS 15), [.t 13, .t 14], (some 15), none⟩,
          ⟨(.ld 15 true), [.t 15], (some 16), none⟩,
          ⟨(.call 48), [.t 12, .t 16], (some 17), none⟩,
          ⟨.mv, [.t 17], (some 0), none⟩]))
      (.ops [⟨.mv, [.t 5], (some 10), none⟩,
        ⟨(.bin .add), [.t 10, .c (.pv (.i .i64 1))], (some 11), none⟩,
        ⟨.mv, [.t 11], (some 5), none⟩]))))))
  (.seq (.ops [⟨.mv, [.t 0], (some 18), none⟩,
    ⟨.mv, [.t 18], (some 4), none⟩])
  .ret)))
theorem fn27 : fnOf Tryd.prog 27 = some (19, [.t 4], ir27) := by kernel_rfl
def ir28 : C :=
  (.seq (.ops [⟨.box, [.t 0], (some 1), none⟩,
    ⟨.mv, [.c (.pv (.b false))], (some 2), none⟩])
  (.seq (.ops [⟨(.fa 7), [.t 1], (some 3), none⟩,
    ⟨(.ld 8 true), [.t 3], (some 4), none⟩,
    ⟨(.bldV 8 1), [.c (.pv (.i .u32 0)), .c (.pv (.i .u32 0)), .c (.pv (.i .u32 0)), .c (.pv (.i .u32 0)), .c (.pv (.i .u32 0)), .c (.pv (.i .u32 0)), .c (.pv (.i .u32 0)), .c (.pv (.i .u32 0))], (some 5), none⟩,
    ⟨(.eqv false [.int .u32, .int .u32, .int .u32, .int .u32, .int .u32, .int .u32, .int .u32, .int .u32]), [.t 4, .t 5], (some 6), none⟩,
    ⟨.mv, [.t 6], (some 2), none⟩])
  .ret))
theorem fn28 : fnOf Tryd.prog 28 = some (7, [.t 2], ir28) := by kernel_rfl
def ir29 : C :=
  (.seq (.ops [⟨.mv, [.c (.pv (.b false))], (some 2), none⟩])
  (.seq (.seq (.ops [⟨.mv, [.t 0], (some 7), none⟩,
    ⟨.len, [.t 7], (some 8), none⟩,
    ⟨(.bin .gtr), [.t 8, .c (.pv (.i .i64 30))], (some 9), none⟩])
  (.ite (.t 9) (.seq (.ops [⟨.mv, [.c (.pv (.b false))], (some 2), none⟩])
    .ret)
    .skip))
  (.seq (.seq (.ops [⟨.mv, [.t 0], (some 10), none⟩,
    ⟨.len, [.t 10], (some 11), none⟩,
    ⟨.mv, [.c (.pv (.i .i64 0))], (some 12), none⟩])
  (.block 0 (.loop (.seq (.ops [⟨(.bin .lss), [.t 12, .t 11], (some 13), none⟩])
      (.seq (.ite (.t 13) .skip
        (.exit 0))
      (.seq (.block 1 (.seq (.ops [⟨.mv, [.t 12], (some 14), none⟩,
          ⟨(.iaS 18), [.t 10, .t 12], (some 15), none⟩,
          ⟨(.ld 18 true), [.t 15], (some 16), none⟩,
          ⟨(.new (.agg [.pv (.i .i64 0), .pv (.i .u32 0), .pv (.i .i64 0), .pv (.i .u32 0), .pv (.s []), .pv (.i .i64 0), .pv (.i .u32 0), .vec 8 (List.replicate 8 (.i .u32 0)), .pv (.b false), .pv (.i .i64 0), .pv (.i .u32 0)])), [], (some 4), none⟩,
          ⟨.mv, [.t 14], (some 3), none⟩,
          ⟨(.sto 18), [.t 4, .t 16], none, none⟩])
        (.seq (.seq (.ops [⟨(.fa 0), [.t 4], (some 17), none⟩,
          ⟨(.fa 4), [.t 17], (some 18), none⟩,
          ⟨(.ld 1 false), [.t 18], (some 19), none⟩,
          ⟨.lenS, [.t 19], (some 20), none⟩,
          ⟨(.bin .gtr), [.t 20, .c (.pv (.i .i64 40))], (some 21), none⟩,
          ⟨.mv, [.t 21], (some 22), none⟩,
          ⟨(.fa 0), [.t 4], (some 23), (some (22, false))⟩,
          ⟨(.fa 7), [.t 23], (some 24), (some (22, false))⟩,
          ⟨(.ld 8 true), [.t 24], (some 25), (some (22, false))⟩,
          ⟨(.bldV 8 1), [.c (.pv (.i .u32 0)), .c (.pv (.i .u32 0)), .c (.pv (.i .u32 0)), .c (.pv (.i .u32 0)), .c (.pv (.i .u32 0)), .c (.pv (.i .u32 0)), .c (.pv (.i .u32 0)), .c (.pv (.i .u32 0))], (some 26), (some (22, false))⟩,
          ⟨(.eqv true [.int .u32, .int .u32, .int .u32, .int .u32, .int .u32, .int .u32, .int .u32, .int .u32]), [.t 25, .t 26], (some 27), (some (22, false))⟩,
          ⟨.pick, [.t 22, .c (.pv (.b true)), .t 27], (some 28), none⟩])
        (.ite (.t 28) (.seq (.ops [⟨.mv, [.c (.pv (.b false))], (some 2), none⟩])
          .ret)
          .skip))
        (.seq (.ops [⟨.mv, [.t 0], (some 29), none⟩,
          ⟨.mv, [.t 3], (some 30), none⟩,
          ⟨(.slc 18 false true false), [.t 29, .t 30], (some 31), none⟩,
          ⟨.len, [.t 31], (some 32), none⟩,
          ⟨.mv, [.c (.pv (.i .i64 0))], (some 33), none⟩])
        (.block 2 (.loop (.seq (.ops [⟨(.bin .lss), [.t 33, .t 32], (some 34), none⟩])
            (.seq (.ite (.t 34) .skip
              (.exit 2))
            (.seq (.block 3 (.seq (.ops [⟨(.iaS 18), [.t 31, .t 33], (some 35), none⟩,
                ⟨(.ld 18 true), [.t 35], (some 36), none⟩,
                ⟨(.new (.agg [.pv (.i .i64 0), .pv (.i .u32 0), .pv (.i .i64 0), .pv (.i .u32 0), .pv (.s []), .pv (.i .i64 0), .pv (.i .u32 0), .vec 8 (List.replicate 8 (.i .u32 0)), .pv (.b false), .pv (.i .i64 0), .pv (.i .u32 0)])), [], (some 6), none⟩,
                ⟨(.sto 18), [.t 6, .t 36], none, none⟩])
              (.seq (.ops [⟨(.fa 0), [.t 6], (some 37), none⟩,
                ⟨(.fa 0), [.t 37], (some 38), none⟩,
                ⟨(.ld 2 true), [.t 38], (some 39), none⟩,
                ⟨(.fa 0), [.t 4], (some 40), none⟩,
                ⟨(.fa 0), [.t 40], (some 41), none⟩,
                ⟨(.ld 2 true), [.t 41], (some 42), none⟩,
                ⟨(.eqv false [.int .i64, .int .u32]), [.t 39, .t 42], (some 43), none⟩,
                ⟨.mv, [.t 43], (some 44), none⟩,
                ⟨(.fa 0), [.t 6], (some 45), (some (44, true))⟩,
                ⟨(.ld 15 true), [.t 45], (some 46), (some (44, true))⟩,
                ⟨(.fa 0), [.t 4], (some 47), (some (44, true))⟩,
                ⟨(.ld 15 true), [.t 47], (some 48), (some (44, true))⟩,
                ⟨(.eqv true [.int .i64, .int .u32, .int .i64, .int .u32, .str, .int .i64, .int .u32, .int .u32, .int .u32, .int .u32, .int .u32, .int .u32, .int .u32, .int .u32, .int .u32]), [.t 46, .t 48], (some 49), (some (44, true))⟩,
                ⟨.pick, [.t 44, .t 49, .c (.pv (.b false))], (some 50), none⟩])
              (.ite (.t 50) (.seq (.ops [⟨.mv, [.c (.pv (.b false))], (some 2), none⟩])
                .ret)
                .skip))))
            (.ops [⟨(.bin .add), [.t 33, .c (.pv (.i .i64 1))], (some 51), none⟩,
              ⟨.mv, [.t 51], (some 33), none⟩]))))))))))
      (.ops [⟨(.bin .add), [.t 12, .c (.pv (.i .i64 1))], (some 52), none⟩,
        ⟨.mv, [.t 52], (some 12), none⟩])))))))
  (.seq (.ops [⟨.mv, [.c (.pv (.b true))], (some 2), none⟩])
  .ret))))
theorem fn29 : fnOf Tryd.prog 29 = some (53, [.t 2], ir29) := by kernel_rfl
def ir30 : C :=
  (.seq (.ops [⟨.box, [.t 1], (some 3), none⟩,
    ⟨.mv, [.c (.pv (.sl true 0 []))], (some 4), none⟩])
  (.seq (.ops [⟨.mv, [.t 0], (some 5), none⟩,
    ⟨(.fa 0), [.t 3], (some 6), none⟩,
    ⟨(.ld 15 true), [.t 6], (some 7), none⟩,
    ⟨(.call 23), [.t 5, .t 7], (some 8), none⟩,
    ⟨.mv, [.t 8], (some 0), none⟩])
  (.seq (.seq (.ops [⟨(.fa 15), [.t 3], (some 9), none⟩,
    ⟨(.ld 1 false), [.t 9], (some 10), none⟩])
  (.ite (.t 10) (.ops [⟨.mv, [.t 0], (some 11), none⟩,
      ⟨(.fa 0), [.t 3], (some 12), none⟩,
      ⟨(.fa 0), [.t 12], (some 13), none⟩,
      ⟨(.ld 2 true), [.t 13], (some 14), none⟩,
      ⟨(.fa 16), [.t 3], (some 15), none⟩,
      ⟨(.ld 2 true), [.t 15], (some 16), none⟩,
      ⟨(.call 25), [.t 11, .t 14, .t 16], (some 17), none⟩,
      ⟨.mv, [.t 17], (some 0), none⟩])
    .skip))
  (.seq (.ops [⟨.mv, [.t 0], (some 18), none⟩,
    ⟨.mv, [.t 18], (some 4), none⟩])
  .ret))))
theorem fn30 : fnOf Tryd.prog 30 = some (19, [.t 4], ir30) := by kernel_rfl
def ir32 : C :=
  (.seq (.ops [⟨.box, [.t 0], (some 2), none⟩,
    ⟨.box, [.t 1], (some 3), none⟩,
    ⟨.mv, [.c (.pv (.b false))], (some 4), none⟩])
  (.seq (.seq (.ops [⟨(.ld 8 true), [.t 2], (some 7), none⟩,
    ⟨.mv, [.c (.pv (.i .i64 0))], (some 8), none⟩])
  (.block 0 (.loop (.seq (.ops [⟨(.bin .lss), [.t 8, .c (.pv (.i .i64 8))], (some 9), none⟩])
      (.seq (.ite (.t 9) .skip
        (.exit 0))
      (.seq (.block 1 (.seq (.ops [⟨.mv, [.t 8], (some 10), none⟩,
          ⟨(.ixA 8 1 false), [.t 7, .t 8], (some 11), none⟩,
          ⟨.mv, [.t 10], (some 5), none⟩,
          ⟨.mv, [.t 11], (some 6), none⟩])
        (.seq (.ops [⟨.mv, [.t 6], (some 12), none⟩,
          ⟨(.bin .gtr), [.t 12, .c (.pv (.i .u32 0))], (some 13), none⟩,
          ⟨.mv, [.t 13], (some 14), none⟩,
          ⟨.mv, [.t 6], (some 15), (some (14, true))⟩,
          ⟨.mv, [.t 5], (some 16), (some (14, true))⟩,
          ⟨(.iaA 8 1), [.t 3, .t 16], (some 17), (some (14, true))⟩,
          ⟨(.ld 1 false), [.t 17], (some 18), (some (14, true))⟩,
          ⟨(.bin .leq), [.t 15, .t 18], (some 19), (some (14, true))⟩,
          ⟨.pick, [.t 14, .t 19, .c (.pv (.b false))], (some 20), none⟩])
        (.ite (.t 20) (.seq (.ops [⟨.mv, [.c (.pv (.b true))], (some 4), none⟩])
          .ret)
          .skip))))
      (.ops [⟨(.bin .add), [.t 8, .c (.pv (.i .i64 1))], (some 21), none⟩,
        ⟨.mv, [.t 21], (some 8), none⟩])))))))
  (.seq (.ops [⟨.mv, [.c (.pv (.b false))], (some 4), none⟩])
  .ret)))
theorem fn32 : fnOf Tryd.prog 32 = some (22, [.t 4], ir32) := by kernel_rfl
def ir33 : C :=
  (.seq (.ops [⟨.box, [.t 0], (some 2), none⟩,
    ⟨.box, [.t 1], (some 3), none⟩,
    ⟨.mv, [.c (.pv (.b false))], (some 4), none⟩])
  (.seq (.seq (.ops [⟨.mv, [.c (.pv (.i .i64 0))], (some 5), none⟩])
  (.block 0 (.loop (.seq (.seq (.ops [⟨.mv, [.t 5], (some 6), none⟩,
        ⟨(.bin .lss), [.t 6, .c (.pv (.i .i64 8))], (some 7), none⟩])
      (.ite (.t 7) .skip
        (.exit 0)))
      (.seq (.block 1 (.seq (.any [] [(⟨.mv, [.t 5], (some 10), none⟩, 0, []),
          (⟨(.iaA 8 1), [.t 2, .t 10], (some 11), none⟩, 0, []),
          (⟨(.ld 1 false), [.t 11], (some 12), none⟩, 1, []),
          (⟨(.bin .geq), [.t 12, .c (.pv (.i .u32 1))], (some 13), none⟩, 0, []),
          (⟨.mv, [.t 13], (some 14), none⟩, 0, []),
          (⟨.mv, [.t 5], (some 15), (some (14, true))⟩, 0, []),
          (⟨(.iaA 8 1), [.t 2, .t 15], (some 16), (some (14, true))⟩, 0, []),
          (⟨(.ld 1 false), [.t 16], (some 17), (some (14, true))⟩, 1, []),
          (⟨.mv, [.t 5], (some 18), (some (14, true))⟩, 0, []),
          (⟨(.iaA 8 1), [.t 3, .t 18], (some 19), (some (14, true))⟩, 0, []),
          (⟨(.ld 1 false), [.t 19], (some 20), (some (14, true))⟩, 1, []),
          (⟨(.bin .leq), [.t 17, .t 20], (some 21), (some (14, true))⟩, 0, []),
          (⟨.pick, [.t 14, .t 21, .c (.pv (.b false))], (some 22), none⟩, 0, [])])
        (.ite (.t 22) (.seq (.ops [⟨.mv, [.c (.pv (.b true))], (some 4), none⟩])
          .ret)
          .skip)))
      (.ops [⟨.mv, [.t 5], (some 8), none⟩,
        ⟨(.bin .add), [.t 8, .c (.pv (.i .i64 1))], (some 9), none⟩,
        ⟨.mv, [.t 9], (some 5), none⟩]))))))
  (.seq (.ops [⟨.mv, [.c (.pv (.b false))], (some 4), none⟩])
  .ret)))
theorem fn33 : fnOf Tryd.prog 33 = some (23, [.t 4], ir33) := by kernel_rfl
def ir35 : C :=
  (.seq (.ops [⟨(.new (.agg [.pv (.i .i64 0), .pv (.i .u32 0)])), [], (some 4), none⟩])
  (.seq (.ops [⟨.mv, [.t 0], (some 5), none⟩,
    ⟨.mv, [.t 1], (some 6), none⟩,
    ⟨(.bld [1, 1]), [.t 5, .t 6], (some 7), none⟩,
    ⟨(.sto 2), [.t 4, .t 7], none, none⟩])
  .ret))
theorem fn35 : fnOf Tryd.prog 35 = some (8, [.c 4 2 true], ir35) := by kernel_rfl
def ir36 : C :=
  (.seq (.ops [⟨.box, [.t 1], (some 3), none⟩,
    ⟨.mv, [.c (.pv (.s []))], (some 4), none⟩])
  (.seq (.any [9, 15] [(⟨.mv, [.t 0], (some 5), none⟩, 0, [9, 15]),
    (⟨(.bin .add), [.t 5, .c (.pv (.s [126]))], (some 6), none⟩, 0, [9, 15]),
    (⟨(.fa 0), [.t 3], (some 7), none⟩, 0, [9, 15]),
    (⟨(.ld 1 false), [.t 7], (some 8), none⟩, 1, [9, 15]),
    (⟨(.call 53), [.t 8], (some 9), none⟩, 1, [9, 15]),
    (⟨(.bin .add), [.t 6, .t 9], (some 10), none⟩, 0, [15]),
    (⟨(.bin .add), [.t 10, .c (.pv (.s [46]))], (some 11), none⟩, 0, [9, 15]),
    (⟨(.fa 1), [.t 3], (some 12), none⟩, 0, [9, 15]),
    (⟨(.ld 1 false), [.t 12], (some 13), none⟩, 1, [9, 15]),
    (⟨(.cvI .u64), [.t 13], (some 14), none⟩, 0, [9, 15]),
    (⟨(.call 54), [.t 14, .c (.pv (.i .i64 10))], (some 15), none⟩, 1, [15]),
    (⟨(.bin .add), [.t 11, .t 15], (some 16), none⟩, 0, [9]),
    (⟨.mv, [.t 16], (some 4), none⟩, 0, [])])
  .ret))
theorem fn36 : fnOf Tryd.prog 36 = some (17, [.t 4], ir36) := by kernel_rfl
def ir37 : C :=
  (.ops [⟨.mv, [.t 0], (some 4), none⟩,
    ⟨.mv, [.t 0], (some 5), none⟩,
    ⟨.len, [.t 5], (some 6), none⟩,
    ⟨.mv, [.t 1], (some 7), none⟩,
    ⟨(.call 55), [.t 4, .t 6, .t 7], (some 8), none⟩])
theorem fn37 : fnOf Tryd.prog 37 = some (9, [], ir37) := by kernel_rfl
def ir38 : C :=
  (.seq (.ops [⟨.box, [.t 0], (some 2), none⟩,
    ⟨.box, [.t 1], (some 3), none⟩,
    ⟨.mv, [.c (.pv (.i .i64 0))], (some 4), none⟩])
  (.seq (.ops [⟨(.fa 4), [.t 2], (some 5), none⟩,
    ⟨(.ld 1 false), [.t 5], (some 6), none⟩,
    ⟨(.fa 4), [.t 3], (some 7), none⟩,
    ⟨(.ld 1 false), [.t 7], (some 8), none⟩,
    ⟨(.call 39), [.t 6, .t 8], (some 9), none⟩,
    ⟨.mv, [.t 9], (some 4), none⟩])
  .ret))
theorem fn38 : fnOf Tryd.prog 38 = some (10, [.t 4], ir38) := by kernel_rfl
def ir39 : C :=
  (.seq (.ops [⟨.mv, [.c (.pv (.i .i64 0))], (some 4), none⟩])
  (.seq (.ops [⟨.mv, [.t 0], (some 7), none⟩,
    ⟨(.call 56), [.t 7], (some 8), none⟩,
    ⟨.mv, [.t 8], (some 5), none⟩])
  (.seq (.ops [⟨.mv, [.t 1], (some 9), none⟩,
    ⟨(.call 56), [.t 9], (some 10), none⟩,
    ⟨.mv, [.t 10], (some 6), none⟩])
  (.seq (.seq (.ops [⟨.mv, [.t 5], (some 11), none⟩])
  (.ite (.t 11) (.seq (.seq (.ops [⟨.mv, [.t 6], (some 12), none⟩])
    (.ite (.t 12) (.seq (.ops [⟨.mv, [.c (.pv (.i .i64 0))], (some 4), none⟩])
      .ret)
      .skip))
    (.seq (.ops [⟨.mv, [.c (.pv (.i .i64 (-1)))], (some 4), none⟩])
    .ret))
    .skip))
  (.seq (.seq (.ops [⟨.mv, [.t 6], (some 13), none⟩])
  (.ite (.t 13) (.seq (.ops [⟨.mv, [.c (.pv (.i .i64 1))], (some 4), none⟩])
    .ret)
    .skip))
  (.seq (.seq (.ops [⟨.mv, [.t 0], (some 14), none⟩,
    ⟨.mv, [.t 1], (some 15), none⟩,
    ⟨(.bin .lss), [.t 14, .t 15], (some 16), none⟩])
  (.ite (.t 16) (.seq (.ops [⟨.mv, [.c (.pv (.i .i64 (-1)))], (some 4), none⟩])
    .ret)
    .skip))
  (.seq (.seq (.ops [⟨.mv, [.t 0], (some 17), none⟩,
    ⟨.mv, [.t 1], (some 18), none⟩,
    ⟨(.bin .gtr), [.t 17, .t 18], (some 19), none⟩])
  (.ite (.t 19) (.seq (.ops [⟨.mv, [.c (.pv (.i .i64 1))], (some 4), none⟩])
    .ret)
    .skip))
  (.seq (.ops [⟨.mv, [.c (.pv (.i .i64 0))], (some 4), none⟩])
  .ret))))))))
theorem fn39 : fnOf Tryd.prog 39 = some (20, [.t 4], ir39) := by kernel_rfl
def ir42 : C :=
  (.seq (.ops [⟨.mv, [.c (.pv (.sl true 0 []))], (some 2), none⟩])
  (.seq (.seq (.ops [⟨.mv, [.t 0], (some 3), none⟩,
    ⟨(.eqn false), [.t 3], (some 4), none⟩])
  (.ite (.t 4) (.seq (.ops [⟨.mv, [.c (.pv (.sl true 0 []))], (some 2), none⟩])
    .ret)
    .skip))
  (.seq (.ops [⟨(.bsl 15), [], (some 5), none⟩,
    ⟨.mv, [.t 0], (some 6), none⟩,
    ⟨(.app 15 96), [.t 5, .t 6], (some 7), none⟩,
    ⟨.mv, [.t 7], (some 2), none⟩])
  .ret)))
theorem fn42 : fnOf Tryd.prog 42 = some (8, [.t 2], ir42) := by kernel_rfl
def ir43 : C :=
  (.seq (.ops [⟨.box, [.t 1], (some 3), none⟩,
    ⟨.mv, [.c (.pv (.i .i64 0))], (some 4), none⟩,
    ⟨.mv, [.c (.pv (.b false))], (some 5), none⟩])
  (.seq (.ops [⟨.mv, [.t 0], (some 6), none⟩,
    ⟨(.ld 2 true), [.t 3], (some 7), none⟩,
    ⟨(.call 57), [.t 6, .t 7, .c (.fn (.func 58) [])], (some 8), none⟩,
    ⟨(.ext 0), [.t 8], (some 9), none⟩,
    ⟨(.ext 1), [.t 8], (some 10), none⟩,
    ⟨.mv, [.t 9], (some 4), none⟩,
    ⟨.mv, [.t 10], (some 5), none⟩])
  .ret))
theorem fn43 : fnOf Tryd.prog 43 = some (11, [.t 4, .t 5], ir43) := by kernel_rfl
def ir44 : C :=
  (.seq (.ops [⟨.box, [.t 0], (some 2), none⟩,
    ⟨.box, [.t 1], (some 3), none⟩,
    ⟨(.new (.vec 8 (List.replicate 8 (.i .u32 0)))), [], (some 4), none⟩])
  (.seq (.seq (.ops [⟨(.ld 8 true), [.t 3], (some 7), none⟩,
    ⟨.mv, [.c (.pv (.i .i64 0))], (some 8), none⟩])
  (.block 0 (.loop (.seq (.ops [⟨(.bin .lss), [.t 8, .c (.pv (.i .i64 8))], (some 9), none⟩])
      (.seq (.ite (.t 9) .skip
        (.exit 0))
      (.seq (.block 1 (.seq (.ops [⟨.mv, [.t 8], (some 10), none⟩,
          ⟨(.ixA 8 1 false), [.t 7, .t 8], (some 11), none⟩,
          ⟨.mv, [.t 10], (some 5), none⟩,
          ⟨.mv, [.t 11], (some 6), none⟩])
        (.ops [⟨.mv, [.t 5], (some 12), none⟩,
          ⟨.mv, [.t 5], (some 13), none⟩,
          ⟨(.iaA 8 1), [.t 2, .t 13], (some 14), none⟩,
          ⟨(.ld 1 false), [.t 14], (some 15), none⟩,
          ⟨.mv, [.t 6], (some 16), none⟩,
          ⟨.mx, [.t 15, .t 16], (some 17), none⟩,
          ⟨(.iaA 8 1), [.t 2, .t 12], (some 18), none⟩,
          ⟨(.sto 1), [.t 18, .t 17], none, none⟩])))
      (.ops [⟨(.bin .add), [.t 8, .c (.pv (.i .i64 1))], (some 19), none⟩,
        ⟨.mv, [.t 19], (some 8), none⟩])))))))
  (.seq (.ops [⟨(.ld 8 true), [.t 2], (some 20), none⟩,
    ⟨(.sto 8), [.t 4, .t 20], none, none⟩])
  .ret)))
theorem fn44 : fnOf Tryd.prog 44 = some (21, [.c 4 8 true], ir44) := by kernel_rfl
def ir45 : C :=
  (.seq (.ops [⟨.mv, [.c (.pv (.sl true 0 []))], (some 6), none⟩])
  (.seq (.ops [⟨.mv, [.t 0], (some 10), none⟩,
    ⟨.mv, [.t 1], (some 11), none⟩,
    ⟨(.slv 15 true false), [.t 10, .t 11], (some 12), none⟩])
  (.seq (.ops [⟨.mv, [.t 2], (some 13), none⟩,
    ⟨.len, [.t 13], (some 14), none⟩,
    ⟨.mv, [.t 14], (some 7), none⟩])
  (.seq (.seq (.ops [⟨.mv, [.t 7], (some 15), none⟩,
    ⟨(.bin .eql), [.t 15, .c (.pv (.i .i64 0))], (some 16), none⟩])
  (.ite (.t 16) (.seq (.ops [⟨.mv, [.t 0], (some 17), none⟩,
      ⟨.mv, [.t 17], (some 6), none⟩])
    .ret)
    .skip))
  (.seq (.ops [⟨.mv, [.t 0], (some 18), none⟩,
    ⟨.len, [.t 18], (some 19), none⟩,
    ⟨.mv, [.t 19], (some 8), none⟩])
  (.seq (.seq (.ops [⟨.mv, [.t 1], (some 20), none⟩,
    ⟨.mv, [.t 8], (some 21), none⟩,
    ⟨(.bin .eql), [.t 20, .t 21], (some 22), none⟩])
  (.ite (.t 22) (.seq (.ops [⟨.mv, [.t 0], (some 23), none⟩,
      ⟨.mv, [.t 2], (some 24), none⟩,
      ⟨(.app 15 96), [.t 23, .t 24], (some 25), none⟩,
      ⟨.mv, [.t 25], (some 6), none⟩])
    .ret)
    .skip))
  (.seq (.seq (.ops [⟨.mv, [.t 8], (some 26), none⟩,
    ⟨.mv, [.t 7], (some 27), none⟩,
    ⟨(.bin .add), [.t 26, .t 27], (some 28), none⟩,
    ⟨.mv, [.t 0], (some 29), none⟩,
    ⟨.cap, [.t 29], (some 30), none⟩,
    ⟨(.bin .gtr), [.t 28, .t 30], (some 31), none⟩])
  (.ite (.t 31) (.seq (.ops [⟨.mv, [.t 0], (some 32), none⟩,
      ⟨.mv, [.t 1], (some 33), none⟩,
      ⟨(.slv 15 false true), [.t 32, .t 33], (some 34), none⟩,
      ⟨.mv, [.t 8], (some 35), none⟩,
      ⟨.mv, [.t 7], (some 36), none⟩,
      ⟨(.bin .add), [.t 35, .t 36], (some 37), none⟩,
      ⟨.mv, [.t 1], (some 38), none⟩,
      ⟨(.bin .sub), [.t 37, .t 38], (some 39), none⟩,
      ⟨(.apz 15 96 [.i .i64 0, .i .u32 0, .i .i64 0, .i .u32 0, .s [], .i .i64 0, .i .u32 0, .i .u32 0, .i .u32 0, .i .u32 0, .i .u32 0, .i .u32 0, .i .u32 0, .i .u32 0, .i .u32 0]), [.t 34, .t 39], (some 40), none⟩,
      ⟨.mv, [.t 40], (some 9), none⟩])
    (.seq (.ops [⟨.mv, [.t 9], (some 41), none⟩,
      ⟨.mv, [.t 1], (some 42), none⟩,
      ⟨(.slv 15 true false), [.t 41, .t 42], (some 43), none⟩,
      ⟨.mv, [.t 2], (some 44), none⟩,
      ⟨(.cpy 15), [.t 43, .t 44], (some 45), none⟩])
    (.seq (.any [] [(⟨.mv, [.t 9], (some 46), none⟩, 0, []),
      (⟨.mv, [.t 1], (some 47), none⟩, 0, []),
      (⟨.mv, [.t 7], (some 48), none⟩, 0, []),
      (⟨(.bin .add), [.t 47, .t 48], (some 49), none⟩, 0, []),
      (⟨(.slv 15 true false), [.t 46, .t 49], (some 50), none⟩, 1, []),
      (⟨.mv, [.t 0], (some 51), none⟩, 0, []),
      (⟨.mv, [.t 1], (some 52), none⟩, 0, []),
      (⟨(.slv 15 true false), [.t 51, .t 52], (some 53), none⟩, 1, []),
      (⟨(.cpy 15), [.t 50, .t 53], (some 54), none⟩, 2, [])])
    (.seq (.ops [⟨.mv, [.t 9], (some 55), none⟩,
      ⟨.mv, [.t 55], (some 6), none⟩])
    .ret))))
    .skip))
  (.seq (.ops [⟨.mv, [.t 0], (some 56), none⟩,
    ⟨.mv, [.t 8], (some 57), none⟩,
    ⟨.mv, [.t 7], (some 58), none⟩,
    ⟨(.bin .add), [.t 57, .t 58], (some 59), none⟩,
    ⟨(.slx 15), [.t 56, .t 59], (some 60), none⟩,
    ⟨.mv, [.t 60], (some 0), none⟩])
  (.seq (.seq (.ops [⟨.mv, [.t 2], (some 61), none⟩,
    ⟨.mv, [.t 0], (some 62), none⟩,
    ⟨.mv, [.t 1], (some 63), none⟩,
    ⟨.mv, [.t 7], (some 64), none⟩,
    ⟨(.bin .add), [.t 63, .t 64], (some 65), none⟩,
    ⟨(.slv 15 true false), [.t 62, .t 65], (some 66), none⟩,
    ⟨(.call 60), [.t 61, .t 66], (some 67), none⟩,
    ⟨(.un .not), [.t 67], (some 68), none⟩])
  (.ite (.t 68) (.seq (.any [] [(⟨.mv, [.t 0], (some 69), none⟩, 0, []),
      (⟨.mv, [.t 1], (some 70), none⟩, 0, []),
      (⟨.mv, [.t 7], (some 71), none⟩, 0, []),
      (⟨(.bin .add), [.t 70, .t 71], (some 72), none⟩, 0, []),
      (⟨(.slv 15 true false), [.t 69, .t 72], (some 73), none⟩, 1, []),
      (⟨.mv, [.t 0], (some 74), none⟩, 0, []),
      (⟨.mv, [.t 1], (some 75), none⟩, 0, []),
      (⟨(.slv 15 true false), [.t 74, .t 75], (some 76), none⟩, 1, []),
      (⟨(.cpy 15), [.t 73, .t 76], (some 77), none⟩, 2, [])])
    (.seq (.ops [⟨.mv, [.t 0], (some 78), none⟩,
      ⟨.mv, [.t 1], (some 79), none⟩,
      ⟨(.slv 15 true false), [.t 78, .t 79], (some 80), none⟩,
      ⟨.mv, [.t 2], (some 81), none⟩,
      ⟨(.cpy 15), [.t 80, .t 81], (some 82), none⟩])
    (.seq (.ops [⟨.mv, [.t 0], (some 83), none⟩,
      ⟨.mv, [.t 83], (some 6), none⟩])
    .ret)))
    .skip))
  (.seq (.ops [⟨.mv, [.t 0], (some 84), none⟩,
    ⟨.mv, [.t 8], (some 85), none⟩,
    ⟨(.slv 15 true false), [.t 84, .t 85], (some 86), none⟩,
    ⟨.mv, [.t 2], (some 87), none⟩,
    ⟨(.cpy 15), [.t 86, .t 87], (some 88), none⟩])
  (.seq (.ops [⟨.mv, [.t 0], (some 89), none⟩,
    ⟨.mv, [.t 1], (some 90), none⟩,
    ⟨(.slc 15 true false false), [.t 89, .t 90], (some 91), none⟩,
    ⟨.mv, [.t 7], (some 92), none⟩,
    ⟨(.call 61), [.t 91, .t 92], (some 93), none⟩])
  (.seq (.ops [⟨.mv, [.t 0], (some 94), none⟩,
    ⟨.mv, [.t 94], (some 6), none⟩])
  .ret))))))))))))
theorem fn45 : fnOf Tryd.prog 45 = some (95, [.t 6], ir45) := by kernel_rfl
def ir46 : C :=
  (.seq (.ops [⟨.box, [.t 0], (some 2), none⟩,
    ⟨.box, [.t 1], (some 3), none⟩,
    ⟨.mv, [.c (.pv (.b false))], (some 4), none⟩])
  (.seq (.ops [⟨(.fa 1), [.t 2], (some 5), none⟩,
    ⟨(.ld 1 false), [.t 5], (some 6), none⟩,
    ⟨(.fa 1), [.t 3], (some 7), none⟩,
    ⟨(.ld 1 false), [.t 7], (some 8), none⟩,
    ⟨(.bin .lss), [.t 6, .t 8], (some 9), none⟩,
    ⟨.mv, [.t 9], (some 10), none⟩,
    ⟨(.fa 1), [.t 2], (some 11), (some (10, false))⟩,
    ⟨(.ld 1 false), [.t 11], (some 12), (some (10, false))⟩,
    ⟨(.fa 1), [.t 3], (some 13), (some (10, false))⟩,
    ⟨(.ld 1 false), [.t 13], (some 14), (some (10, false))⟩,
    ⟨(.bin .eql), [.t 12, .t 14], (some 15), (some (10, false))⟩,
    ⟨.mv, [.t 15], (some 16), (some (10, false))⟩,
    ⟨(.fa 0), [.t 2], (some 17), (some (16, true))⟩,
    ⟨(.ld 1 false), [.t 17], (some 18), (some (16, true))⟩,
    ⟨(.fa 0), [.t 3], (some 19), (some (16, true))⟩,
    ⟨(.ld 1 false), [.t 19], (some 20), (some (16, true))⟩,
    ⟨(.bin .lss), [.t 18, .t 20], (some 21), (some (16, true))⟩,
    ⟨.pick, [.t 16, .t 21, .c (.pv (.b false))], (some 22), (some (10, false))⟩,
    ⟨.pick, [.t 10, .c (.pv (.b true)), .t 22], (some 23), none⟩,
    ⟨.mv, [.t 23], (some 4), none⟩])
  .ret))
theorem fn46 : fnOf Tryd.prog 46 = some (24, [.t 4], ir46) := by kernel_rfl
def ir47 : C :=
  (.seq (.ops [⟨.box, [.t 1], (some 3), none⟩,
    ⟨.mv, [.c (.pv (.b false))], (some 4), none⟩])
  (.seq (.seq (.ops [⟨.mv, [.c (.pv (.i .i64 0))], (some 5), none⟩])
  (.block 0 (.loop (.seq (.seq (.ops [⟨.mv, [.t 5], (some 6), none⟩,
        ⟨.mv, [.t 0], (some 7), none⟩,
        ⟨.len, [.t 7], (some 8), none⟩,
        ⟨(.bin .lss), [.t 6, .t 8], (some 9), none⟩])
      (.ite (.t 9) .skip
        (.exit 0)))
      (.seq (.block 1 (.seq (.any [] [(⟨.mv, [.t 0], (some 12), none⟩, 0, []),
          (⟨.mv, [.t 5], (some 13), none⟩, 0, []),
          (⟨(.iaS 15), [.t 12, .t 13], (some 14), none⟩, 1, []),
          (⟨(.fa 0), [.t 14], (some 15), none⟩, 0, []),
          (⟨(.ld 2 true), [.t 15], (some 16), none⟩, 1, []),
          (⟨(.ld 2 true), [.t 3], (some 17), none⟩, 1, []),
          (⟨(.eqv false [.int .i64, .int .u32]), [.t 16, .t 17], (some 18), none⟩, 0, [])])
        (.ite (.t 18) (.seq (.ops [⟨.mv, [.c (.pv (.b true))], (some 4), none⟩])
          .ret)
          .skip)))
      (.ops [⟨.mv, [.t 5], (some 10), none⟩,
        ⟨(.bin .add), [.t 10, .c (.pv (.i .i64 1))], (some 11), none⟩,
        ⟨.mv, [.t 11], (some 5), none⟩]))))))
  (.seq (.ops [⟨.mv, [.c (.pv (.b false))], (some 4), none⟩])
  .ret)))
theorem fn47 : fnOf Tryd.prog 47 = some (19, [.t 4], ir47) := by kernel_rfl
def ir48 : C :=
  (.seq (.ops [⟨.box, [.t 1], (some 3), none⟩,
    ⟨.mv, [.c (.pv (.sl true 0 []))], (some 4), none⟩])
  (.seq (.ops [⟨.mv, [.c (.pv (.sl true 0 []))], (some 5), none⟩])
  (.seq (.ops [⟨.mv, [.c (.pv (.b false))], (some 6), none⟩])
  (.seq (.seq (.ops [⟨.mv, [.c (.pv (.i .i64 0))], (some 7), none⟩])
  (.block 0 (.loop (.seq (.seq (.ops [⟨.mv, [.t 7], (some 9), none⟩,
        ⟨.mv, [.t 0], (some 10), none⟩,
        ⟨.len, [.t 10], (some 11), none⟩,
        ⟨(.bin .lss), [.t 9, .t 11], (some 12), none⟩])
      (.ite (.t 12) .skip
        (.exit 0)))
      (.seq (.block 1 (.seq (.seq (.any [] [(⟨.mv, [.t 0], (some 15), none⟩, 0, []),
          (⟨.mv, [.t 7], (some 16), none⟩, 0, []),
          (⟨(.iaS 15), [.t 15, .t 16], (some 17), none⟩, 1, []),
          (⟨(.fa 0), [.t 17], (some 18), none⟩, 0, []),
          (⟨(.ld 2 true), [.t 18], (some 19), none⟩, 1, []),
          (⟨(.fa 0), [.t 3], (some 20), none⟩, 0, []),
          (⟨(.ld 2 true), [.t 20], (some 21), none⟩, 1, []),
          (⟨(.eqv false [.int .i64, .int .u32]), [.t 19, .t 21], (some 22), none⟩, 0, [])])
        (.ite (.t 22) (.seq (.ops [⟨.mv, [.t 0], (some 23), none⟩,
            ⟨.mv, [.t 7], (some 24), none⟩,
            ⟨(.iaS 15), [.t 23, .t 24], (some 25), none⟩,
            ⟨(.ld 15 true), [.t 25], (some 26), none⟩,
            ⟨(.new (.agg [.pv (.i .i64 0), .pv (.i .u32 0), .pv (.i .i64 0), .pv (.i .u32 0), .pv (.s []), .pv (.i .i64 0), .pv (.i .u32 0), .vec 8 (List.replicate 8 (.i .u32 0))])), [], (some 8), none⟩,
            ⟨(.sto 15), [.t 8, .t 26], none, none⟩])
          (.seq (.ops [⟨(.fa 7), [.t 8], (some 27), none⟩,
            ⟨(.ld 8 true), [.t 27], (some 28), none⟩,
            ⟨(.fa 7), [.t 3], (some 29), none⟩,
            ⟨(.ld 8 true), [.t 29], (some 30), none⟩,
            ⟨(.call 62), [.t 28, .t 30], (some 31), none⟩,
            ⟨(.fa 7), [.t 8], (some 32), none⟩,
            ⟨(.sto 8), [.t 32, .t 31], none, none⟩])
          (.seq (.ops [⟨.mv, [.t 5], (some 33), none⟩,
            ⟨(.ld 15 true), [.t 8], (some 34), none⟩,
            ⟨(.bsl 15), [.t 34], (some 35), none⟩,
            ⟨(.app 15 96), [.t 33, .t 35], (some 36), none⟩,
            ⟨.mv, [.t 36], (some 5), none⟩])
          (.seq (.ops [⟨.mv, [.c (.pv (.b true))], (some 6), none⟩])
          (.exit 1)))))
          .skip))
        (.seq (.seq (.any [47] [(⟨.mv, [.t 6], (some 37), none⟩, 0, [47]),
          (⟨(.un .not), [.t 37], (some 38), none⟩, 0, [47]),
          (⟨.mv, [.t 38], (some 39), none⟩, 0, [47]),
          (⟨(.fa 0), [.t 3], (some 40), (some (39, true))⟩, 0, [47]),
          (⟨(.ld 2 true), [.t 40], (some 41), (some (39, true))⟩, 1, [47]),
          (⟨.mv, [.t 0], (some 42), (some (39, true))⟩, 0, [47]),
          (⟨.mv, [.t 7], (some 43), (some (39, true))⟩, 0, [47]),
          (⟨(.iaS 15), [.t 42, .t 43], (some 44), (some (39, true))⟩, 1, [47]),
          (⟨(.fa 0), [.t 44], (some 45), (some (39, true))⟩, 0, [47]),
          (⟨(.ld 2 true), [.t 45], (some 46), (some (39, true))⟩, 1, [47]),
          (⟨(.call 46), [.t 41, .t 46], (some 47), (some (39, true))⟩, 3, [47]),
          (⟨.pick, [.t 39, .t 47, .c (.pv (.b false))], (some 48), none⟩, 0, [])])
        (.ite (.t 48) (.seq (.ops [⟨.mv, [.t 5], (some 49), none⟩,
            ⟨(.ld 15 true), [.t 3], (some 50), none⟩,
            ⟨(.bsl 15), [.t 50], (some 51), none⟩,
            ⟨(.app 15 96), [.t 49, .t 51], (some 52), none⟩,
            ⟨.mv, [.t 52], (some 5), none⟩])
          (.ops [⟨.mv, [.c (.pv (.b true))], (some 6), none⟩]))
          .skip))
        (.ops [⟨.mv, [.t 5], (some 53), none⟩,
          ⟨.mv, [.t 0], (some 54), none⟩,
          ⟨.mv, [.t 7], (some 55), none⟩,
          ⟨(.iaS 15), [.t 54, .t 55], (some 56), none⟩,
          ⟨(.ld 15 true), [.t 56], (some 57), none⟩,
          ⟨(.bsl 15), [.t 57], (some 58), none⟩,
          ⟨(.app 15 96), [.t 53, .t 58], (some 59), none⟩,
          ⟨.mv, [.t 59], (some 5), none⟩]))))
      (.ops [⟨.mv, [.t 7], (some 13), none⟩,
        ⟨(.bin .add), [.t 13, .c (.pv (.i .i64 1))], (some 14), none⟩,
        ⟨.mv, [.t 14], (some 7), none⟩]))))))
  (.seq (.seq (.ops [⟨.mv, [.t 6], (some 60), none⟩,
    ⟨(.un .not), [.t 60], (some 61), none⟩])
  (.ite (.t 61) (.ops [⟨.mv, [.t 5], (some 62), none⟩,
      ⟨(.ld 15 true), [.t 3], (some 63), none⟩,
      ⟨(.bsl 15), [.t 63], (some 64), none⟩,
      ⟨(.app 15 96), [.t 62, .t 64], (some 65), none⟩,
      ⟨.mv, [.t 65], (some 5), none⟩])
    .skip))
  (.seq (.ops [⟨.mv, [.t 5], (some 66), none⟩,
    ⟨.mv, [.t 66], (some 4), none⟩])
  .ret))))))
theorem fn48 : fnOf Tryd.prog 48 = some (67, [.t 4], ir48) := by kernel_rfl
def ir49 : C :=
  (.seq (.ops [⟨.box, [.t 0], (some 2), none⟩,
    ⟨.box, [.t 1], (some 3), none⟩,
    ⟨(.new (.vec 8 (List.replicate 8 (.i .u32 0)))), [], (some 4), none⟩])
  (.seq (.seq (.ops [⟨(.fa 0), [.t 3], (some 5), none⟩,
    ⟨(.ld 1 false), [.t 5], (some 6), none⟩,
    ⟨(.bin .geq), [.t 6, .c (.pv (.i .i64 1))], (some 7), none⟩,
    ⟨.mv, [.t 7], (some 8), none⟩,
    ⟨(.fa 0), [.t 3], (some 9), (some (8, true))⟩,
    ⟨(.ld 1 false), [.t 9], (some 10), (some (8, true))⟩,
    ⟨(.bin .leq), [.t 10, .c (.pv (.i .i64 8))], (some 11), (some (8, true))⟩,
    ⟨.pick, [.t 8, .t 11, .c (.pv (.b false))], (some 12), none⟩])
  (.ite (.t 12) (.any [] [(⟨(.fa 0), [.t 3], (some 13), none⟩, 0, []),
      (⟨(.ld 1 false), [.t 13], (some 14), none⟩, 1, []),
      (⟨(.bin .sub), [.t 14, .c (.pv (.i .i64 1))], (some 15), none⟩, 0, []),
      (⟨(.fa 0), [.t 3], (some 16), none⟩, 0, []),
      (⟨(.ld 1 false), [.t 16], (some 17), none⟩, 1, []),
      (⟨(.bin .sub), [.t 17, .c (.pv (.i .i64 1))], (some 18), none⟩, 0, []),
      (⟨(.iaA 8 1), [.t 2, .t 18], (some 19), none⟩, 0, []),
      (⟨(.ld 1 false), [.t 19], (some 20), none⟩, 1, []),
      (⟨(.fa 1), [.t 3], (some 21), none⟩, 0, []),
      (⟨(.ld 1 false), [.t 21], (some 22), none⟩, 1, []),
      (⟨.mx, [.t 20, .t 22], (some 23), none⟩, 0, []),
      (⟨(.iaA 8 1), [.t 2, .t 15], (some 24), none⟩, 0, []),
      (⟨(.sto 1), [.t 24, .t 23], none, none⟩, 2, [])])
    .skip))
  (.seq (.ops [⟨(.ld 8 true), [.t 2], (some 25), none⟩,
    ⟨(.sto 8), [.t 4, .t 25], none, none⟩])
  .ret)))
theorem fn49 : fnOf Tryd.prog 49 = some (26, [.c 4 8 true], ir49) := by kernel_rfl
def ir50 : C :=
  (.seq (.ops [⟨.box, [.t 0], (some 2), none⟩,
    ⟨.box, [.t 1], (some 3), none⟩,
    ⟨(.new (.vec 8 (List.replicate 8 (.i .u32 0)))), [], (some 4), none⟩])
  (.seq (.any [7, 8] [(⟨(.ld 8 true), [.t 2], (some 5), none⟩, 1, [7, 8]),
    (⟨(.ld 2 true), [.t 3], (some 6), none⟩, 1, [7, 8]),
    (⟨(.call 63), [.t 6], (some 7), none⟩, 1, [7, 8]),
    (⟨(.call 62), [.t 5, .t 7], (some 8), none⟩, 3, [8]),
    (⟨(.sto 8), [.t 4, .t 8], none, none⟩, 2, [])])
  .ret))
theorem fn50 : fnOf Tryd.prog 50 = some (9, [.c 4 8 true], ir50) := by kernel_rfl
def ir53 : C :=
  (.seq (.ops [⟨.mv, [.c (.pv (.s []))], (some 2), none⟩])
  (.seq (.ops [⟨.mv, [.t 0], (some 3), none⟩,
    ⟨(.call 65), [.t 3], (some 4), none⟩,
    ⟨.mv, [.t 4], (some 2), none⟩])
  .ret))
theorem fn53 : fnOf Tryd.prog 53 = some (5, [.t 2], ir53) := by kernel_rfl
def ir54 : C :=
  (.seq (.ops [⟨.mv, [.c (.pv (.s []))], (some 4), none⟩])
  (.seq (.ops [⟨.mv, [.t 0], (some 5), none⟩,
    ⟨.mv, [.t 1], (some 6), none⟩,
    ⟨(.call 66), [.t 5, .t 6], (some 7), none⟩,
    ⟨.mv, [.t 7], (some 4), none⟩])
  .ret))
theorem fn54 : fnOf Tryd.prog 54 = some (8, [.t 4], ir54) := by kernel_rfl
def ir55 : C :=
  (.seq (.ops [⟨.mv, [.c (.pv (.i .i64 20))], (some 6), none⟩])
  (.seq (.ops [⟨.mv, [.t 6], (some 10), none⟩,
    ⟨.mv, [.c (.pv (.i .i64 0))], (some 7), none⟩,
    ⟨.mv, [.t 10], (some 8), none⟩])
  (.seq (.block 0 (.loop (.seq (.seq (.ops [⟨.mv, [.t 8], (some 11), none⟩,
        ⟨.mv, [.t 1], (some 12), none⟩,
        ⟨(.bin .leq), [.t 11, .t 12], (some 13), none⟩])
      (.ite (.t 13) .skip
        (.exit 0)))
      (.block 1 (.seq (.ops [⟨.mv, [.t 0], (some 14), none⟩,
          ⟨.mv, [.t 7], (some 15), none⟩,
          ⟨.mv, [.t 8], (some 16), none⟩,
          ⟨.mv, [.t 2], (some 17), none⟩,
          ⟨(.call 67), [.t 14, .t 15, .t 16, .t 17], (some 18), none⟩])
        (.seq (.ops [⟨.mv, [.t 8], (some 19), none⟩,
          ⟨.mv, [.t 19], (some 7), none⟩])
        (.ops [⟨.mv, [.t 8], (some 20), none⟩,
          ⟨.mv, [.t 6], (some 21), none⟩,
          ⟨(.bin .add), [.t 20, .t 21], (some 22), none⟩,
          ⟨.mv, [.t 22], (some 8), none⟩])))))))
  (.seq (.ops [⟨.mv, [.t 0], (some 23), none⟩,
    ⟨.mv, [.t 7], (some 24), none⟩,
    ⟨.mv, [.t 1], (some 25), none⟩,
    ⟨.mv, [.t 2], (some 26), none⟩,
    ⟨(.call 67), [.t 23, .t 24, .t 25, .t 26], (some 27), none⟩])
  (.block 2 (.loop (.seq (.seq (.ops [⟨.mv, [.t 6], (some 28), none⟩,
        ⟨.mv, [.t 1], (some 29), none⟩,
        ⟨(.bin .lss), [.t 28, .t 29], (some 30), none⟩])
      (.ite (.t 30) .skip
        (.exit 2)))
      (.block 3 (.seq (.ops [⟨.mv, [.t 6], (some 31), none⟩,
          ⟨(.bin .mul), [.c (.pv (.i .i64 2)), .t 31], (some 32), none⟩,
          ⟨.mv, [.c (.pv (.i .i64 0))], (some 7), none⟩,
          ⟨.mv, [.t 32], (some 8), none⟩])
        (.seq (.block 4 (.loop (.seq (.seq (.ops [⟨.mv, [.t 8], (some 33), none⟩,
              ⟨.mv, [.t 1], (some 34), none⟩,
              ⟨(.bin .leq), [.t 33, .t 34], (some 35), none⟩])
            (.ite (.t 35) .skip
              (.exit 4)))
            (.block 5 (.seq (.ops [⟨.mv, [.t 0], (some 36), none⟩,
                ⟨.mv, [.t 7], (some 37), none⟩,
                ⟨.mv, [.t 7], (some 38), none⟩,
                ⟨.mv, [.t 6], (some 39), none⟩,
                ⟨(.bin .add), [.t 38, .t 39], (some 40), none⟩,
                ⟨.mv, [.t 8], (some 41), none⟩,
                ⟨.mv, [.t 2], (some 42), none⟩,
                ⟨(.call 68), [.t 36, .t 37, .t 40, .t 41, .t 42], (some 43), none⟩])
              (.seq (.ops [⟨.mv, [.t 8], (some 44), none⟩,
                ⟨.mv, [.t 44], (some 7), none⟩])
              (.ops [⟨.mv, [.t 8], (some 45), none⟩,
                ⟨.mv, [.t 6], (some 46), none⟩,
                ⟨(.bin .mul), [.c (.pv (.i .i64 2)), .t 46], (some 47), none⟩,
                ⟨(.bin .add), [.t 45, .t 47], (some 48), none⟩,
                ⟨.mv, [.t 48], (some 8), none⟩])))))))
        (.seq (.seq (.ops [⟨.mv, [.t 7], (some 49), none⟩,
          ⟨.mv, [.t 6], (some 50), none⟩,
          ⟨(.bin .add), [.t 49, .t 50], (some 51), none⟩,
          ⟨.mv, [.t 51], (some 9), none⟩])
        (.seq (.ops [⟨.mv, [.t 9], (some 52), none⟩,
          ⟨.mv, [.t 1], (some 53), none⟩,
          ⟨(.bin .lss), [.t 52, .t 53], (some 54), none⟩])
        (.ite (.t 54) (.ops [⟨.mv, [.t 0], (some 55), none⟩,
            ⟨.mv, [.t 7], (some 56), none⟩,
            ⟨.mv, [.t 9], (some 57), none⟩,
            ⟨.mv, [.t 1], (some 58), none⟩,
            ⟨.mv, [.t 2], (some 59), none⟩,
            ⟨(.call 68), [.t 55, .t 56, .t 57, .t 58, .t 59], (some 60), none⟩])
          .skip)))
        (.ops [⟨.mv, [.t 6], (some 61), none⟩,
          ⟨(.bin .mul), [.t 61, .c (.pv (.i .i64 2))], (some 62), none⟩,
          ⟨.mv, [.t 62], (some 6), none⟩]))))))))))))
theorem fn55 : fnOf Tryd.prog 55 = some (63, [], ir55) := by kernel_rfl
def ir56 : C :=
  (.seq (.ops [⟨.mv, [.c (.pv (.b false))], (some 2), none⟩])
  (.seq (.ops [⟨.mv, [.t 0], (some 3), none⟩,
    ⟨.mv, [.t 0], (some 4), none⟩,
    ⟨(.bin .neq), [.t 3, .t 4], (some 5), none⟩,
    ⟨.mv, [.t 5], (some 2), none⟩])
  .ret))
theorem fn56 : fnOf Tryd.prog 56 = some (6, [.t 2], ir56) := by kernel_rfl
def ir57 : C :=
  (.seq (.ops [⟨.box, [.t 1], (some 4), none⟩,
    ⟨.mv, [.c (.pv (.i .i64 0))], (some 6), none⟩,
    ⟨.mv, [.c (.pv (.b false))], (some 7), none⟩])
  (.seq (.ops [⟨.mv, [.t 0], (some 12), none⟩,
    ⟨.len, [.t 12], (some 13), none⟩,
    ⟨.mv, [.t 13], (some 8), none⟩])
  (.seq (.ops [⟨.mv, [.t 8], (some 14), none⟩,
    ⟨.mv, [.c (.pv (.i .i64 0))], (some 9), none⟩,
    ⟨.mv, [.t 14], (some 10), none⟩])
  (.seq (.block 0 (.loop (.seq (.seq (.ops [⟨.mv, [.t 9], (some 15), none⟩,
        ⟨.mv, [.t 10], (some 16), none⟩,
        ⟨(.bin .lss), [.t 15, .t 16], (some 17), none⟩])
      (.ite (.t 17) .skip
        (.exit 0)))
      (.block 1 (.seq (.ops [⟨.mv, [.t 9], (some 18), none⟩,
          ⟨.mv, [.t 10], (some 19), none⟩,
          ⟨(.bin .add), [.t 18, .t 19], (some 20), none⟩,
          ⟨(.cvI .u64), [.t 20], (some 21), none⟩,
          ⟨(.bin .shr), [.t 21, .c (.pv (.i .u64 1))], (some 22), none⟩,
          ⟨(.cvI .i64), [.t 22], (some 23), none⟩,
          ⟨.mv, [.t 23], (some 11), none⟩])
        (.seq (.any [30] [(⟨.mv, [.t 2], (some 24), none⟩, 0, [30]),
          (⟨.mv, [.t 0], (some 25), none⟩, 0, [30]),
          (⟨.mv, [.t 11], (some 26), none⟩, 0, [30]),
          (⟨(.iaS 15), [.t 25, .t 26], (some 27), none⟩, 1, [30]),
          (⟨(.ld 15 true), [.t 27], (some 28), none⟩, 1, [30]),
          (⟨(.ld 2 true), [.t 4], (some 29), none⟩, 1, [30]),
          (⟨.callv, [.t 24, .t 28, .t 29], (some 30), none⟩, 1, [30]),
          (⟨(.bin .lss), [.t 30, .c (.pv (.i .i64 0))], (some 31), none⟩, 0, [])])
        (.ite (.t 31) (.ops [⟨.mv, [.t 11], (some 32), none⟩,
            ⟨(.bin .add), [.t 32, .c (.pv (.i .i64 1))], (some 33), none⟩,
            ⟨.mv, [.t 33], (some 9), none⟩])
          (.ops [⟨.mv, [.t 11], (some 34), none⟩,
            ⟨.mv, [.t 34], (some 10), none⟩]))))))))
  (.seq (.any [46] [(⟨.mv, [.t 9], (some 35), none⟩, 0, [46]),
    (⟨.mv, [.t 9], (some 36), none⟩, 0, [46]),
    (⟨.mv, [.t 8], (some 37), none⟩, 0, [46]),
    (⟨(.bin .lss), [.t 36, .t 37], (some 38), none⟩, 0, [46]),
    (⟨.mv, [.t 38], (some 39), none⟩, 0, [46]),
    (⟨.mv, [.t 2], (some 40), (some (39, true))⟩, 0, [46]),
    (⟨.mv, [.t 0], (some 41), (some (39, true))⟩, 0, [46]),
    (⟨.mv, [.t 9], (some 42), (some (39, true))⟩, 0, [46]),
    (⟨(.iaS 15), [.t 41, .t 42], (some 43), (some (39, true))⟩, 1, [46]),
    (⟨(.ld 15 true), [.t 43], (some 44), (some (39, true))⟩, 1, [46]),
    (⟨(.ld 2 true), [.t 4], (some 45), (some (39, true))⟩, 1, [46]),
    (⟨.callv, [.t 40, .t 44, .t 45], (some 46), (some (39, true))⟩, 1, [46]),
    (⟨(.bin .eql), [.t 46, .c (.pv (.i .i64 0))], (some 47), (some (39, true))⟩, 0, []),
    (⟨.pick, [.t 39, .t 47, .c (.pv (.b false))], (some 48), none⟩, 0, [46]),
    (⟨.mv, [.t 35], (some 6), none⟩, 0, []),
    (⟨.mv, [.t 48], (some 7), none⟩, 0, [])])
  .ret)))))
theorem fn57 : fnOf Tryd.prog 57 = some (49, [.t 6, .t 7], ir57) := by kernel_rfl
def ir58 : C :=
  (.seq (.ops [⟨.box, [.t 0], (some 2), none⟩,
    ⟨.box, [.t 1], (some 3), none⟩,
    ⟨.mv, [.c (.pv (.i .i64 0))], (some 4), none⟩])
  (.seq (.ops [⟨(.fa 0), [.t 2], (some 5), none⟩,
    ⟨(.ld 2 true), [.t 5], (some 6), none⟩,
    ⟨(.ld 2 true), [.t 3], (some 7), none⟩,
    ⟨(.call 59), [.t 6, .t 7], (some 8), none⟩,
    ⟨.mv, [.t 8], (some 4), none⟩])
  .ret))
theorem fn58 : fnOf Tryd.prog 58 = some (9, [.t 4], ir58) := by kernel_rfl
def ir59 : C :=
  (.seq (.ops [⟨.box, [.t 0], (some 2), none⟩,
    ⟨.box, [.t 1], (some 3), none⟩,
    ⟨.mv, [.c (.pv (.i .i64 0))], (some 4), none⟩])
  (.seq (.block 0 (.seq (.ops [⟨(.ld 2 true), [.t 2], (some 6), none⟩,
      ⟨(.ld 2 true), [.t 3], (some 7), none⟩,
      ⟨(.call 69), [.t 6, .t 7], (some 8), none⟩,
      ⟨.mv, [.t 8], (some 5), none⟩])
    (.ite (.t 5) (.seq (.ops [⟨.mv, [.c (.pv (.i .i64 (-1)))], (some 4), none⟩])
      .ret)
      (.seq (.ops [⟨(.ld 2 true), [.t 3], (some 10), none⟩,
        ⟨(.ld 2 true), [.t 2], (some 11), none⟩,
        ⟨(.call 69), [.t 10, .t 11], (some 12), none⟩,
        ⟨.mv, [.t 12], (some 9), none⟩])
      (.ite (.t 9) (.seq (.ops [⟨.mv, [.c (.pv (.i .i64 1))], (some 4), none⟩])
        .ret)
        .skip)))))
  (.seq (.ops [⟨.mv, [.c (.pv (.i .i64 0))], (some 4), none⟩])
  .ret)))
theorem fn59 : fnOf Tryd.prog 59 = some (13, [.t 4], ir59) := by kernel_rfl
def ir62 : C :=
  (.seq (.ops [⟨.box, [.t 0], (some 2), none⟩,
    ⟨.box, [.t 1], (some 3), none⟩,
    ⟨(.new (.vec 8 (List.replicate 8 (.i .u32 0)))), [], (some 4), none⟩])
  (.seq (.ops [⟨(.bldV 8 1), [.c (.pv (.i .u32 0)), .c (.pv (.i .u32 0)), .c (.pv (.i .u32 0)), .c (.pv (.i .u32 0)), .c (.pv (.i .u32 0)), .c (.pv (.i .u32 0)), .c (.pv (.i .u32 0)), .c (.pv (.i .u32 0))], (some 7), none⟩,
    ⟨(.new (.vec 8 (List.replicate 8 (.i .u32 0)))), [], (some 5), none⟩,
    ⟨(.sto 8), [.t 5, .t 7], none, none⟩])
  (.seq (.seq (.ops [⟨.mv, [.c (.pv (.i .i64 0))], (some 6), none⟩])
  (.block 0 (.loop (.seq (.seq (.ops [⟨.mv, [.t 6], (some 8), none⟩,
        ⟨(.bin .lss), [.t 8, .c (.pv (.i .i64 8))], (some 9), none⟩])
      (.ite (.t 9) .skip
        (.exit 0)))
      (.seq (.block 1 (.seq (.ops [⟨.mv, [.t 6], (some 12), none⟩,
          ⟨.mv, [.t 6], (some 13), none⟩,
          ⟨(.iaA 8 1), [.t 2, .t 13], (some 14), none⟩,
          ⟨(.ld 1 false), [.t 14], (some 15), none⟩,
          ⟨(.iaA 8 1), [.t 5, .t 12], (some 16), none⟩,
          ⟨(.sto 1), [.t 16, .t 15], none, none⟩])
        (.seq (.any [] [(⟨.mv, [.t 6], (some 17), none⟩, 0, []),
          (⟨(.iaA 8 1), [.t 3, .t 17], (some 18), none⟩, 0, []),
          (⟨(.ld 1 false), [.t 18], (some 19), none⟩, 1, []),
          (⟨.mv, [.t 6], (some 20), none⟩, 0, []),
          (⟨(.iaA 8 1), [.t 2, .t 20], (some 21), none⟩, 0, []),
          (⟨(.ld 1 false), [.t 21], (some 22), none⟩, 1, []),
          (⟨(.bin .gtr), [.t 19, .t 22], (some 23), none⟩, 0, [])])
        (.ite (.t 23) (.ops [⟨.mv, [.t 6], (some 24), none⟩,
            ⟨.mv, [.t 6], (some 25), none⟩,
            ⟨(.iaA 8 1), [.t 3, .t 25], (some 26), none⟩,
            ⟨(.ld 1 false), [.t 26], (some 27), none⟩,
            ⟨(.iaA 8 1), [.t 5, .t 24], (some 28), none⟩,
            ⟨(.sto 1), [.t 28, .t 27], none, none⟩])
          .skip))))
      (.ops [⟨.mv, [.t 6], (some 10), none⟩,
        ⟨(.bin .add), [.t 10, .c (.pv (.i .i64 1))], (some 11), none⟩,
        ⟨.mv, [.t 11], (some 6), none⟩]))))))
  (.seq (.ops [⟨(.ld 8 true), [.t 5], (some 29), none⟩,
    ⟨(.sto 8), [.t 4, .t 29], none, none⟩])
  .ret))))
theorem fn62 : fnOf Tryd.prog 62 = some (30, [.c 4 8 true], ir62) := by kernel_rfl
def ir63 : C :=
  (.seq (.ops [⟨.box, [.t 0], (some 1), none⟩,
    ⟨(.new (.vec 8 (List.replicate 8 (.i .u32 0)))), [], (some 2), none⟩])
  (.seq (.ops [⟨(.bldV 8 1), [.c (.pv (.i .u32 0)), .c (.pv (.i .u32 0)), .c (.pv (.i .u32 0)), .c (.pv (.i .u32 0)), .c (.pv (.i .u32 0)), .c (.pv (.i .u32 0)), .c (.pv (.i .u32 0)), .c (.pv (.i .u32 0))], (some 5), none⟩,
    ⟨(.new (.vec 8 (List.replicate 8 (.i .u32 0)))), [], (some 3), none⟩,
    ⟨(.sto 8), [.t 3, .t 5], none, none⟩])
  (.seq (.seq (.ops [⟨.mv, [.c (.pv (.i .i64 0))], (some 4), none⟩])
  (.block 0 (.loop (.seq (.seq (.ops [⟨.mv, [.t 4], (some 6), none⟩,
        ⟨(.bin .lss), [.t 6, .c (.pv (.i .i64 8))], (some 7), none⟩])
      (.ite (.t 7) .skip
        (.exit 0)))
      (.seq (.block 1 (.seq (.ops [⟨.mv, [.t 4], (some 10), none⟩,
          ⟨(.bin .add), [.t 10, .c (.pv (.i .i64 1))], (some 11), none⟩,
          ⟨(.fa 0), [.t 1], (some 12), none⟩,
          ⟨(.ld 1 false), [.t 12], (some 13), none⟩,
          ⟨(.bin .eql), [.t 11, .t 13], (some 14), none⟩])
        (.ite (.t 14) (.ops [⟨.mv, [.t 4], (some 15), none⟩,
            ⟨(.fa 1), [.t 1], (some 16), none⟩,
            ⟨(.ld 1 false), [.t 16], (some 17), none⟩,
            ⟨(.iaA 8 1), [.t 3, .t 15], (some 18), none⟩,
            ⟨(.sto 1), [.t 18, .t 17], none, none⟩])
          .skip)))
      (.ops [⟨.mv, [.t 4], (some 8), none⟩,
        ⟨(.bin .add), [.t 8, .c (.pv (.i .i64 1))], (some 9), none⟩,
        ⟨.mv, [.t 9], (some 4), none⟩]))))))
  (.seq (.ops [⟨(.ld 8 true), [.t 3], (some 19), none⟩,
    ⟨(.sto 8), [.t 2, .t 19], none, none⟩])
  .ret))))
theorem fn63 : fnOf Tryd.prog 63 = some (20, [.c 2 8 true], ir63) := by kernel_rfl
def ir65 : C :=
  (.seq (.ops [⟨.mv, [.c (.pv (.s []))], (some 2), none⟩])
  (.seq (.ops [⟨.mv, [.t 0], (some 3), none⟩,
    ⟨(.call 71), [.t 3, .c (.pv (.i .i64 10))], (some 4), none⟩,
    ⟨.mv, [.t 4], (some 2), none⟩])
  .ret))
theorem fn65 : fnOf Tryd.prog 65 = some (5, [.t 2], ir65) := by kernel_rfl
def ir66 : C :=
  (.seq (.ops [⟨.mv, [.c (.pv (.s []))], (some 4), none⟩])
  (.seq (.seq (.ops [⟨.mv, [.t 1], (some 9), none⟩,
    ⟨(.bin .eql), [.t 9, .c (.pv (.i .i64 10))], (some 10), none⟩])
  (.ite (.t 10) (.seq (.seq (.ops [⟨.mv, [.t 0], (some 11), none⟩,
      ⟨(.bin .lss), [.t 11, .c (.pv (.i .u64 100))], (some 12), none⟩])
    (.ite (.t 12) (.seq (.ops [⟨.mv, [.t 0], (some 13), none⟩,
        ⟨(.cvI .i64), [.t 13], (some 14), none⟩,
        ⟨(.call 72), [.t 14], (some 15), none⟩,
        ⟨.mv, [.t 15], (some 4), none⟩])
      .ret)
      .skip))
    (.seq (.ops [⟨(.new (.vec 24 (List.replicate 24 (.i .u8 0)))), [], (some 5), none⟩])
    (.seq (.ops [⟨.mv, [.t 0], (some 16), none⟩,
      ⟨(.call 73), [.t 16], (some 17), none⟩,
      ⟨.mv, [.t 17], (some 6), none⟩])
    (.seq .bad
    (.seq .bad
    .ret)))))
    .skip))
  (.seq (.ops [⟨.mv, [.t 0], (some 26), none⟩,
    ⟨.mv, [.t 1], (some 27), none⟩,
    ⟨(.call 75), [.c (.pv (.sl true 0 [])), .t 26, .t 27, .c (.pv (.b false)), .c (.pv (.b false))], (some 28), none⟩,
    ⟨.mv, [.t 28], (some 25), none⟩,
    ⟨(.ext 0), [.t 25], (some 29), none⟩,
    ⟨(.ext 1), [.t 25], (some 30), none⟩,
    ⟨.mv, [.t 29], (some 7), none⟩,
    ⟨.mv, [.t 30], (some 8), none⟩])
  (.seq (.ops [⟨.mv, [.t 8], (some 31), none⟩,
    ⟨.mv, [.t 31], (some 4), none⟩])
  .ret))))
theorem fn66 : fnOf Tryd.prog 66 = some (32, [.t 4], ir66) := by kernel_rfl
def ir67 : C :=
  (.seq (.ops [⟨.mv, [.t 1], (some 10), none⟩,
    ⟨(.bin .add), [.t 10, .c (.pv (.i .i64 1))], (some 11), none⟩,
    ⟨.mv, [.t 11], (some 8), none⟩])
  (.block 0 (.loop (.seq (.seq (.ops [⟨.mv, [.t 8], (some 12), none⟩,
        ⟨.mv, [.t 2], (some 13), none⟩,
        ⟨(.bin .lss), [.t 12, .t 13], (some 14), none⟩])
      (.ite (.t 14) .skip
        (.exit 0)))
      (.seq (.block 1 (.seq (.ops [⟨.mv, [.t 8], (some 17), none⟩,
          ⟨.mv, [.t 17], (some 9), none⟩])
        (.block 2 (.loop (.seq (.seq (.any [32] [(⟨.mv, [.t 9], (some 18), none⟩, 0, [32]),
              (⟨.mv, [.t 1], (some 19), none⟩, 0, [32]),
              (⟨(.bin .gtr), [.t 18, .t 19], (some 20), none⟩, 0, [32]),
              (⟨.mv, [.t 20], (some 21), none⟩, 0, [32]),
              (⟨.mv, [.t 3], (some 22), (some (21, true))⟩, 0, [32]),
              (⟨.mv, [.t 0], (some 23), (some (21, true))⟩, 0, [32]),
              (⟨.mv, [.t 9], (some 24), (some (21, true))⟩, 0, [32]),
              (⟨(.iaS 15), [.t 23, .t 24], (some 25), (some (21, true))⟩, 1, [32]),
              (⟨(.ld 15 true), [.t 25], (some 26), (some (21, true))⟩, 1, [32]),
              (⟨.mv, [.t 0], (some 27), (some (21, true))⟩, 0, [32]),
              (⟨.mv, [.t 9], (some 28), (some (21, true))⟩, 0, [32]),
              (⟨(.bin .sub), [.t 28, .c (.pv (.i .i64 1))], (some 29), (some (21, true))⟩, 0, [32]),
              (⟨(.iaS 15), [.t 27, .t 29], (some 30), (some (21, true))⟩, 1, [32]),
              (⟨(.ld 15 true), [.t 30], (some 31), (some (21, true))⟩, 1, [32]),
              (⟨.callv, [.t 22, .t 26, .t 31], (some 32), (some (21, true))⟩, 1, [32]),
              (⟨(.bin .lss), [.t 32, .c (.pv (.i .i64 0))], (some 33), (some (21, true))⟩, 0, []),
              (⟨.pick, [.t 21, .t 33, .c (.pv (.b false))], (some 34), none⟩, 0, [32])])
            (.ite (.t 34) .skip
              (.exit 2)))
            (.seq (.block 3 (.any [] [(⟨.mv, [.t 0], (some 37), none⟩, 0, []),
                (⟨.mv, [.t 9], (some 38), none⟩, 0, []),
                (⟨.mv, [.t 0], (some 39), none⟩, 0, []),
                (⟨.mv, [.t 9], (some 40), none⟩, 0, []),
                (⟨(.bin .sub), [.t 40, .c (.pv (.i .i64 1))], (some 41), none⟩, 0, []),
                (⟨.mv, [.t 0], (some 42), none⟩, 0, []),
                (⟨.mv, [.t 9], (some 43), none⟩, 0, []),
                (⟨(.bin .sub), [.t 43, .c (.pv (.i .i64 1))], (some 44), none⟩, 0, []),
                (⟨(.iaS 15), [.t 42, .t 44], (some 45), none⟩, 1, []),
                (⟨(.ld 15 true), [.t 45], (some 46), none⟩, 1, []),
                (⟨.mv, [.t 0], (some 47), none⟩, 0, []),
                (⟨.mv, [.t 9], (some 48), none⟩, 0, []),
                (⟨(.iaS 15), [.t 47, .t 48], (some 49), none⟩, 1, []),
                (⟨(.ld 15 true), [.t 49], (some 50), none⟩, 1, []),
                (⟨(.iaS 15), [.t 37, .t 38], (some 51), none⟩, 1, []),
                (⟨(.sto 15), [.t 51, .t 46], none, none⟩, 2, []),
                (⟨(.iaS 15), [.t 39, .t 41], (some 52), none⟩, 1, []),
                (⟨(.sto 15), [.t 52, .t 50], none, none⟩, 2, [])]))
            (.ops [⟨.mv, [.t 9], (some 35), none⟩,
              ⟨(.bin .sub), [.t 35, .c (.pv (.i .i64 1))], (some 36), none⟩,
              ⟨.mv, [.t 36], (some 9), none⟩])))))))
      (.ops [⟨.mv, [.t 8], (some 15), none⟩,
        ⟨(.bin .add), [.t 15, .c (.pv (.i .i64 1))], (some 16), none⟩,
        ⟨.mv, [.t 16], (some 8), none⟩]))))))
theorem fn67 : fnOf Tryd.prog 67 = some (53, [], ir67) := by kernel_rfl
def ir69 : C :=
  (.seq (.ops [⟨.box, [.t 0], (some 2), none⟩,
    ⟨.box, [.t 1], (some 3), none⟩,
    ⟨.mv, [.c (.pv (.b false))], (some 4), none⟩])
  (.seq (.seq (.ops [⟨(.fa 1), [.t 2], (some 5), none⟩,
    ⟨(.ld 1 false), [.t 5], (some 6), none⟩,
    ⟨(.fa 1), [.t 3], (some 7), none⟩,
    ⟨(.ld 1 false), [.t 7], (some 8), none⟩,
    ⟨(.bin .neq), [.t 6, .t 8], (some 9), none⟩])
  (.ite (.t 9) (.seq (.ops [⟨(.fa 1), [.t 2], (some 10), none⟩,
      ⟨(.ld 1 false), [.t 10], (some 11), none⟩,
      ⟨(.fa 1), [.t 3], (some 12), none⟩,
      ⟨(.ld 1 false), [.t 12], (some 13), none⟩,
      ⟨(.bin .lss), [.t 11, .t 13], (some 14), none⟩,
      ⟨.mv, [.t 14], (some 4), none⟩])
    .ret)
    .skip))
  (.seq (.ops [⟨(.fa 0), [.t 2], (some 15), none⟩,
    ⟨(.ld 1 false), [.t 15], (some 16), none⟩,
    ⟨(.fa 0), [.t 3], (some 17), none⟩,
    ⟨(.ld 1 false), [.t 17], (some 18), none⟩,
    ⟨(.bin .lss), [.t 16, .t 18], (some 19), none⟩,
    ⟨.mv, [.t 19], (some 4), none⟩])
  .ret)))
theorem fn69 : fnOf Tryd.prog 69 = some (20, [.t 4], ir69) := by kernel_rfl
def ir71 : C :=
  (.seq (.ops [⟨.mv, [.c (.pv (.s []))], (some 4), none⟩])
  (.seq (.seq (.ops [⟨.mv, [.t 1], (some 10), none⟩,
    ⟨(.bin .eql), [.t 10, .c (.pv (.i .i64 10))], (some 11), none⟩])
  (.ite (.t 11) (.seq (.seq (.ops [⟨.mv, [.t 0], (some 12), none⟩,
      ⟨(.bin .leq), [.c (.pv (.i .i64 0)), .t 12], (some 13), none⟩,
      ⟨.mv, [.t 13], (some 14), none⟩,
      ⟨.mv, [.t 0], (some 15), (some (14, true))⟩,
      ⟨(.bin .lss), [.t 15, .c (.pv (.i .i64 100))], (some 16), (some (14, true))⟩,
      ⟨.pick, [.t 14, .t 16, .c (.pv (.b false))], (some 17), none⟩])
    (.ite (.t 17) (.seq (.ops [⟨.mv, [.t 0], (some 18), none⟩,
        ⟨(.call 72), [.t 18], (some 19), none⟩,
        ⟨.mv, [.t 19], (some 4), none⟩])
      .ret)
      .skip))
    (.seq (.ops [⟨(.new (.vec 24 (List.replicate 24 (.i .u8 0)))), [], (some 5), none⟩])
    (.seq (.ops [⟨.mv, [.t 0], (some 20), none⟩,
      ⟨(.cvI .u64), [.t 20], (some 21), none⟩,
      ⟨.mv, [.t 21], (some 6), none⟩])
    (.seq (.seq (.ops [⟨.mv, [.t 0], (some 22), none⟩,
      ⟨(.bin .lss), [.t 22, .c (.pv (.i .i64 0))], (some 23), none⟩])
    (.ite (.t 23) (.ops [⟨.mv, [.t 6], (some 24), none⟩,
        ⟨(.un .neg), [.t 24], (some 25), none⟩,
        ⟨.mv, [.t 25], (some 6), none⟩])
      .skip))
    (.seq (.ops [⟨.mv, [.t 6], (some 26), none⟩,
      ⟨(.call 73), [.t 26], (some 27), none⟩,
      ⟨.mv, [.t 27], (some 7), none⟩])
    (.seq .bad
    (.seq (.seq (.ops [⟨.mv, [.t 0], (some 33), none⟩,
      ⟨(.bin .lss), [.t 33, .c (.pv (.i .i64 0))], (some 34), none⟩])
    (.ite (.t 34) (.seq (.ops [⟨(.iaC 0), [.t 5], (some 35), none⟩,
        ⟨(.sto 1), [.t 35, .c (.pv (.i .u8 45))], none, none⟩])
      (.seq .bad
      .ret))
      .skip))
    (.seq .bad
    .ret))))))))
    .skip))
  (.seq (.ops [⟨.mv, [.t 0], (some 45), none⟩,
    ⟨(.cvI .u64), [.t 45], (some 46), none⟩,
    ⟨.mv, [.t 1], (some 47), none⟩,
    ⟨.mv, [.t 0], (some 48), none⟩,
    ⟨(.bin .lss), [.t 48, .c (.pv (.i .i64 0))], (some 49), none⟩,
    ⟨(.call 75), [.c (.pv (.sl true 0 [])), .t 46, .t 47, .t 49, .c (.pv (.b false))], (some 50), none⟩,
    ⟨.mv, [.t 50], (some 44), none⟩,
    ⟨(.ext 0), [.t 44], (some 51), none⟩,
    ⟨(.ext 1), [.t 44], (some 52), none⟩,
    ⟨.mv, [.t 51], (some 8), none⟩,
    ⟨.mv, [.t 52], (some 9), none⟩])
  (.seq (.ops [⟨.mv, [.t 9], (some 53), none⟩,
    ⟨.mv, [.t 53], (some 4), none⟩])
  .ret))))
theorem fn71 : fnOf Tryd.prog 71 = some (54, [.t 4], ir71) := by kernel_rfl
def ir72 : C :=
  (.seq (.ops [⟨.mv, [.c (.pv (.s []))], (some 2), none⟩])
  (.seq (.seq (.ops [⟨.mv, [.t 0], (some 3), none⟩,
    ⟨(.bin .lss), [.t 3, .c (.pv (.i .i64 10))], (some 4), none⟩])
  (.ite (.t 4) (.seq (.ops [⟨.mv, [.t 0], (some 5), none⟩,
      ⟨.mv, [.t 0], (some 6), none⟩,
      ⟨(.bin .add), [.t 6, .c (.pv (.i .i64 1))], (some 7), none⟩,
      ⟨(.sls true true), [.c (.pv (.s [48, 49, 50, 51, 52, 53, 54, 55, 56, 57, 97, 98, 99, 100, 101, 102, 103, 104, 105, 106, 107, 108, 109, 110, 111, 112, 113, 114, 115, 116, 117, 118, 119, 120, 121, 122])), .t 5, .t 7], (some 8), none⟩,
      ⟨.mv, [.t 8], (some 2), none⟩])
    .ret)
    .skip))
  (.seq (.ops [⟨.mv, [.t 0], (some 9), none⟩,
    ⟨(.bin .mul), [.t 9, .c (.pv (.i .i64 2))], (some 10), none⟩,
    ⟨.mv, [.t 0], (some 11), none⟩,
    ⟨(.bin .mul), [.t 11, .c (.pv (.i .i64 2))], (some 12), none⟩,
    ⟨(.bin .add), [.t 12, .c (.pv (.i .i64 2))], (some 13), none⟩,
    ⟨(.sls true true), [.c (.pv (.s [48, 48, 48, 49, 48, 50, 48, 51, 48, 52, 48, 53, 48, 54, 48, 55, 48, 56, 48, 57, 49, 48, 49, 49, 49, 50, 49, 51, 49, 52, 49, 53, 49, 54, 49, 55, 49, 56, 49, 57, 50, 48, 50, 49, 50, 50, 50, 51, 50, 52, 50, 53, 50, 54, 50, 55, 50, 56, 50, 57, 51, 48, 51, 49, 51, 50, 51, 51, 51, 52, 51, 53, 51, 54, 51, 55, 51, 56, 51, 57, 52, 48, 52, 49, 52, 50, 52, 51, 52, 52, 52, 53, 52, 54, 52, 55, 52, 56, 52, 57, 53, 48, 53, 49, 53, 50, 53, 51, 53, 52, 53, 53, 53, 54, 53, 55, 53, 56, 53, 57, 54, 48, 54, 49, 54, 50, 54, 51, 54, 52, 54, 53, 54, 54, 54, 55, 54, 56, 54, 57, 55, 48, 55, 49, 55, 50, 55, 51, 55, 52, 55, 53, 55, 54, 55, 55, 55, 56, 55, 57, 56, 48, 56, 49, 56, 50, 56, 51, 56, 52, 56, 53, 56, 54, 56, 55, 56, 56, 56, 57, 57, 48, 57, 49, 57, 50, 57, 51, 57, 52, 57, 53, 57, 54, 57, 55, 57, 56, 57, 57])), .t 10, .t 13], (some 14), none⟩,
    ⟨.mv, [.t 14], (some 2), none⟩])
  .ret)))
theorem fn72 : fnOf Tryd.prog 72 = some (15, [.t 2], ir72) := by kernel_rfl
end Go.Proofs.YthleeikkpjiicaaDoor.Fw
