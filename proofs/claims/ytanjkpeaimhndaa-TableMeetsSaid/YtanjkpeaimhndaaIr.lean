/- The functions of the program in the small language, each checked against the program. -/
import Derived.Test.YtanjkpeaimhndaaFwC
import Derived.Test.YtanjkpeaimhndaaProg
import Derived.ProofKit
set_option linter.unusedVariables false
set_option linter.unusedSimpArgs false
set_option linter.unusedSectionVars false
set_option maxRecDepth 100000
namespace Go.Proofs.Ytanjkpeaimhndaa.Fw
open Go.Proofs
theorem mixed : Try.prog.follows .mixedOrders = true := by kernel_rfl
def ir12 : C :=
  (.seq (.ops [⟨.mv, [.c (.pv (.b false))], (some 6), none⟩])
  (.seq (.seq (.ops [⟨(.call 23), [], (some 16), none⟩,
    ⟨(.un .not), [.t 16], (some 17), none⟩,
    ⟨.mv, [.t 17], (some 18), none⟩,
    ⟨.mv, [.t 0], (some 19), (some (18, false))⟩,
    ⟨.len, [.t 19], (some 20), (some (18, false))⟩,
    ⟨(.bin .gtr), [.t 20, .c (.pv (.i .i64 40))], (some 21), (some (18, false))⟩,
    ⟨.pick, [.t 18, .c (.pv (.b true)), .t 21], (some 22), none⟩,
    ⟨.mv, [.t 22], (some 23), none⟩,
    ⟨.mv, [.t 0], (some 24), (some (23, false))⟩,
    ⟨.len, [.t 24], (some 25), (some (23, false))⟩,
    ⟨(.bin .eql), [.t 25, .c (.pv (.i .i64 0))], (some 26), (some (23, false))⟩,
    ⟨.pick, [.t 23, .c (.pv (.b true)), .t 26], (some 27), none⟩])
  (.ite (.t 27) (.seq (.ops [⟨(.call 23), [], (some 28), none⟩,
      ⟨.mv, [.t 28], (some 6), none⟩])
    .ret)
    .skip))
  (.seq (.ops [⟨(.new (.vec 64 (List.replicate 64 (.i .u32 0)))), [], (some 7), none⟩,
    ⟨(.new (.vec 64 (List.replicate 64 (.i .u32 0)))), [], (some 8), none⟩,
    ⟨(.new (.vec 64 (List.replicate 64 (.i .u32 0)))), [], (some 9), none⟩,
    ⟨(.new (.vec 64 (List.replicate 64 (.i .u32 0)))), [], (some 10), none⟩])
  (.seq (.any [] [(⟨.mv, [.t 1], (some 29), none⟩, 0),
    (⟨(.cvI .u64), [.t 29], (some 30), none⟩, 0),
    (⟨.mv, [.t 0], (some 31), none⟩, 0),
    (⟨.len, [.t 31], (some 32), none⟩, 1),
    (⟨(.cvI .u64), [.t 32], (some 33), none⟩, 0),
    (⟨(.bin .rem), [.t 30, .t 33], (some 34), none⟩, 0),
    (⟨(.cvI .i64), [.t 34], (some 35), none⟩, 0),
    (⟨.mv, [.t 2], (some 36), none⟩, 0),
    (⟨(.cvI .u64), [.t 36], (some 37), none⟩, 0),
    (⟨.mv, [.t 0], (some 38), none⟩, 0),
    (⟨.len, [.t 38], (some 39), none⟩, 1),
    (⟨(.cvI .u64), [.t 39], (some 40), none⟩, 0),
    (⟨(.bin .rem), [.t 37, .t 40], (some 41), none⟩, 0),
    (⟨(.cvI .i64), [.t 41], (some 42), none⟩, 0),
    (⟨.mv, [.t 35], (some 11), none⟩, 0),
    (⟨.mv, [.t 42], (some 12), none⟩, 0)])
  (.seq (.seq (.ops [⟨.mv, [.t 0], (some 43), none⟩,
    ⟨.len, [.t 43], (some 44), none⟩,
    ⟨.mv, [.c (.pv (.i .i64 0))], (some 45), none⟩])
  (.block 0 (.loop (.seq (.ops [⟨(.bin .lss), [.t 45, .t 44], (some 46), none⟩])
      (.seq (.ite (.t 46) .skip
        (.exit 0))
      (.seq (.block 1 (.seq (.ops [⟨.mv, [.t 45], (some 47), none⟩,
          ⟨(.iaS 9), [.t 43, .t 45], (some 48), none⟩,
          ⟨(.ld 9 true), [.t 48], (some 49), none⟩,
          ⟨(.new (.agg [.pv (.i .i64 0), .vec 8 (List.replicate 8 (.i .u32 0))])), [], (some 14), none⟩,
          ⟨.mv, [.t 47], (some 13), none⟩,
          ⟨(.sto 9), [.t 14, .t 49], none, none⟩])
        (.seq (.ops [⟨(.ld 64 true), [.t 7], (some 50), none⟩,
          ⟨(.fa 0), [.t 14], (some 51), none⟩,
          ⟨(.ld 1 false), [.t 51], (some 52), none⟩,
          ⟨(.fa 1), [.t 14], (some 53), none⟩,
          ⟨(.ld 8 true), [.t 53], (some 54), none⟩,
          ⟨(.call 24), [.t 50, .t 52, .t 54], (some 55), none⟩,
          ⟨(.sto 64), [.t 7, .t 55], none, none⟩])
        (.seq (.ops [⟨.mv, [.t 0], (some 56), none⟩,
          ⟨.mv, [.t 0], (some 57), none⟩,
          ⟨.len, [.t 57], (some 58), none⟩,
          ⟨(.bin .sub), [.t 58, .c (.pv (.i .i64 1))], (some 59), none⟩,
          ⟨.mv, [.t 13], (some 60), none⟩,
          ⟨.mv, [.t 11], (some 61), none⟩,
          ⟨(.bin .add), [.t 60, .t 61], (some 62), none⟩,
          ⟨.mv, [.t 0], (some 63), none⟩,
          ⟨.len, [.t 63], (some 64), none⟩,
          ⟨(.bin .rem), [.t 62, .t 64], (some 65), none⟩,
          ⟨(.bin .sub), [.t 59, .t 65], (some 66), none⟩,
          ⟨(.iaS 9), [.t 56, .t 66], (some 67), none⟩,
          ⟨(.ld 9 true), [.t 67], (some 68), none⟩,
          ⟨(.new (.agg [.pv (.i .i64 0), .vec 8 (List.replicate 8 (.i .u32 0))])), [], (some 15), none⟩,
          ⟨(.sto 9), [.t 15, .t 68], none, none⟩])
        (.seq (.any [74, 78] [(⟨(.ld 64 true), [.t 8], (some 69), none⟩, 1),
          (⟨(.fa 0), [.t 15], (some 70), none⟩, 0),
          (⟨(.ld 1 false), [.t 70], (some 71), none⟩, 1),
          (⟨(.fa 1), [.t 15], (some 72), none⟩, 0),
          (⟨(.ld 8 true), [.t 72], (some 73), none⟩, 1),
          (⟨(.call 24), [.t 69, .t 71, .t 73], (some 74), none⟩, 1),
          (⟨(.fa 0), [.t 14], (some 75), none⟩, 0),
          (⟨(.ld 1 false), [.t 75], (some 76), none⟩, 1),
          (⟨(.bldV 8 1), [.c (.pv (.i .u32 0)), .c (.pv (.i .u32 0)), .c (.pv (.i .u32 0)), .c (.pv (.i .u32 0)), .c (.pv (.i .u32 0)), .c (.pv (.i .u32 0)), .c (.pv (.i .u32 0)), .c (.pv (.i .u32 0))], (some 77), none⟩, 0),
          (⟨(.call 24), [.t 74, .t 76, .t 77], (some 78), none⟩, 1),
          (⟨(.sto 64), [.t 8, .t 78], none, none⟩, 2)])
        (.seq (.ops [⟨.mv, [.t 13], (some 79), none⟩,
          ⟨.mv, [.t 12], (some 80), none⟩,
          ⟨(.bin .lss), [.t 79, .t 80], (some 81), none⟩])
        (.ite (.t 81) (.ops [⟨(.ld 64 true), [.t 9], (some 82), none⟩,
            ⟨(.fa 0), [.t 14], (some 83), none⟩,
            ⟨(.ld 1 false), [.t 83], (some 84), none⟩,
            ⟨(.fa 1), [.t 14], (some 85), none⟩,
            ⟨(.ld 8 true), [.t 85], (some 86), none⟩,
            ⟨(.call 24), [.t 82, .t 84, .t 86], (some 87), none⟩,
            ⟨(.sto 64), [.t 9, .t 87], none, none⟩])
          (.ops [⟨(.ld 64 true), [.t 10], (some 88), none⟩,
            ⟨(.fa 0), [.t 14], (some 89), none⟩,
            ⟨(.ld 1 false), [.t 89], (some 90), none⟩,
            ⟨(.fa 1), [.t 14], (some 91), none⟩,
            ⟨(.ld 8 true), [.t 91], (some 92), none⟩,
            ⟨(.call 24), [.t 88, .t 90, .t 92], (some 93), none⟩,
            ⟨(.sto 64), [.t 10, .t 93], none, none⟩]))))))))
      (.ops [⟨(.bin .add), [.t 45, .c (.pv (.i .i64 1))], (some 94), none⟩,
        ⟨.mv, [.t 94], (some 45), none⟩])))))))
  (.seq (.any [102, 109, 115] [(⟨(.ld 64 true), [.t 7], (some 95), none⟩, 1),
    (⟨(.ld 64 true), [.t 8], (some 96), none⟩, 1),
    (⟨(.eqv false [.int .u32, .int .u32, .int .u32, .int .u32, .int .u32, .int .u32, .int .u32, .int .u32, .int .u32, .int .u32, .int .u32, .int .u32, .int .u32, .int .u32, .int .u32, .int .u32, .int .u32, .int .u32, .int .u32, .int .u32, .int .u32, .int .u32, .int .u32, .int .u32, .int .u32, .int .u32, .int .u32, .int .u32, .int .u32, .int .u32, .int .u32, .int .u32, .int .u32, .int .u32, .int .u32, .int .u32, .int .u32, .int .u32, .int .u32, .int .u32, .int .u32, .int .u32, .int .u32, .int .u32, .int .u32, .int .u32, .int .u32, .int .u32, .int .u32, .int .u32, .int .u32, .int .u32, .int .u32, .int .u32, .int .u32, .int .u32, .int .u32, .int .u32, .int .u32, .int .u32, .int .u32, .int .u32, .int .u32, .int .u32]), [.t 95, .t 96], (some 97), none⟩, 0),
    (⟨.mv, [.t 97], (some 98), none⟩, 0),
    (⟨(.ld 64 true), [.t 7], (some 99), (some (98, true))⟩, 1),
    (⟨(.ld 64 true), [.t 9], (some 100), (some (98, true))⟩, 1),
    (⟨(.ld 64 true), [.t 10], (some 101), (some (98, true))⟩, 1),
    (⟨(.call 29), [.t 100, .t 101], (some 102), (some (98, true))⟩, 1),
    (⟨(.eqv false [.int .u32, .int .u32, .int .u32, .int .u32, .int .u32, .int .u32, .int .u32, .int .u32, .int .u32, .int .u32, .int .u32, .int .u32, .int .u32, .int .u32, .int .u32, .int .u32, .int .u32, .int .u32, .int .u32, .int .u32, .int .u32, .int .u32, .int .u32, .int .u32, .int .u32, .int .u32, .int .u32, .int .u32, .int .u32, .int .u32, .int .u32, .int .u32, .int .u32, .int .u32, .int .u32, .int .u32, .int .u32, .int .u32, .int .u32, .int .u32, .int .u32, .int .u32, .int .u32, .int .u32, .int .u32, .int .u32, .int .u32, .int .u32, .int .u32, .int .u32, .int .u32, .int .u32, .int .u32, .int .u32, .int .u32, .int .u32, .int .u32, .int .u32, .int .u32, .int .u32, .int .u32, .int .u32, .int .u32, .int .u32]), [.t 99, .t 102], (some 103), (some (98, true))⟩, 0),
    (⟨.pick, [.t 98, .t 103, .c (.pv (.b false))], (some 104), none⟩, 0),
    (⟨.mv, [.t 104], (some 105), none⟩, 0),
    (⟨(.ld 64 true), [.t 7], (some 106), (some (105, true))⟩, 1),
    (⟨(.ld 64 true), [.t 7], (some 107), (some (105, true))⟩, 1),
    (⟨(.ld 64 true), [.t 9], (some 108), (some (105, true))⟩, 1),
    (⟨(.call 29), [.t 107, .t 108], (some 109), (some (105, true))⟩, 1),
    (⟨(.eqv false [.int .u32, .int .u32, .int .u32, .int .u32, .int .u32, .int .u32, .int .u32, .int .u32, .int .u32, .int .u32, .int .u32, .int .u32, .int .u32, .int .u32, .int .u32, .int .u32, .int .u32, .int .u32, .int .u32, .int .u32, .int .u32, .int .u32, .int .u32, .int .u32, .int .u32, .int .u32, .int .u32, .int .u32, .int .u32, .int .u32, .int .u32, .int .u32, .int .u32, .int .u32, .int .u32, .int .u32, .int .u32, .int .u32, .int .u32, .int .u32, .int .u32, .int .u32, .int .u32, .int .u32, .int .u32, .int .u32, .int .u32, .int .u32, .int .u32, .int .u32, .int .u32, .int .u32, .int .u32, .int .u32, .int .u32, .int .u32, .int .u32, .int .u32, .int .u32, .int .u32, .int .u32, .int .u32, .int .u32, .int .u32]), [.t 106, .t 109], (some 110), (some (105, true))⟩, 0),
    (⟨.pick, [.t 105, .t 110, .c (.pv (.b false))], (some 111), none⟩, 0),
    (⟨.mv, [.t 111], (some 112), none⟩, 0),
    (⟨(.ld 64 true), [.t 10], (some 113), (some (112, true))⟩, 1),
    (⟨(.ld 64 true), [.t 9], (some 114), (some (112, true))⟩, 1),
    (⟨(.call 29), [.t 113, .t 114], (some 115), (some (112, true))⟩, 1),
    (⟨(.ld 64 true), [.t 7], (some 116), (some (112, true))⟩, 1),
    (⟨(.eqv false [.int .u32, .int .u32, .int .u32, .int .u32, .int .u32, .int .u32, .int .u32, .int .u32, .int .u32, .int .u32, .int .u32, .int .u32, .int .u32, .int .u32, .int .u32, .int .u32, .int .u32, .int .u32, .int .u32, .int .u32, .int .u32, .int .u32, .int .u32, .int .u32, .int .u32, .int .u32, .int .u32, .int .u32, .int .u32, .int .u32, .int .u32, .int .u32, .int .u32, .int .u32, .int .u32, .int .u32, .int .u32, .int .u32, .int .u32, .int .u32, .int .u32, .int .u32, .int .u32, .int .u32, .int .u32, .int .u32, .int .u32, .int .u32, .int .u32, .int .u32, .int .u32, .int .u32, .int .u32, .int .u32, .int .u32, .int .u32, .int .u32, .int .u32, .int .u32, .int .u32, .int .u32, .int .u32, .int .u32, .int .u32]), [.t 115, .t 116], (some 117), (some (112, true))⟩, 0),
    (⟨.pick, [.t 112, .t 117, .c (.pv (.b false))], (some 118), none⟩, 0),
    (⟨.mv, [.t 118], (some 6), none⟩, 0)])
  .ret))))))
theorem fn12 : fnOf Try.prog 12 = some (119, [.t 6], ir12) := by kernel_rfl
def ir23 : C :=
  (.seq (.ops [⟨.mv, [.c (.pv (.b false))], (some 0), none⟩])
  (.seq (.ops [⟨(.bldV 64 8), [.c (.vec 8 (List.replicate 8 (.i .u32 0))), .c (.vec 8 (List.replicate 8 (.i .u32 0))), .c (.vec 8 (List.replicate 8 (.i .u32 0))), .c (.vec 8 (List.replicate 8 (.i .u32 0))), .c (.vec 8 (List.replicate 8 (.i .u32 0))), .c (.vec 8 (List.replicate 8 (.i .u32 0))), .c (.vec 8 (List.replicate 8 (.i .u32 0))), .c (.vec 8 (List.replicate 8 (.i .u32 0)))], (some 2), none⟩,
    ⟨(.bldV 8 1), [.c (.pv (.i .u32 2)), .c (.pv (.i .u32 0)), .c (.pv (.i .u32 0)), .c (.pv (.i .u32 0)), .c (.pv (.i .u32 0)), .c (.pv (.i .u32 0)), .c (.pv (.i .u32 0)), .c (.pv (.i .u32 0))], (some 3), none⟩,
    ⟨(.call 24), [.t 2, .c (.pv (.i .i64 1)), .t 3], (some 4), none⟩,
    ⟨(.bldV 8 1), [.c (.pv (.i .u32 1)), .c (.pv (.i .u32 3)), .c (.pv (.i .u32 0)), .c (.pv (.i .u32 0)), .c (.pv (.i .u32 0)), .c (.pv (.i .u32 0)), .c (.pv (.i .u32 0)), .c (.pv (.i .u32 0))], (some 5), none⟩,
    ⟨(.call 24), [.t 4, .c (.pv (.i .i64 2)), .t 5], (some 6), none⟩,
    ⟨(.new (.vec 64 (List.replicate 64 (.i .u32 0)))), [], (some 1), none⟩,
    ⟨(.sto 64), [.t 1, .t 6], none, none⟩])
  (.seq (.ops [⟨(.ld 64 true), [.t 1], (some 7), none⟩,
    ⟨(.bldV 8 1), [.c (.pv (.b true)), .c (.pv (.b true)), .c (.pv (.b false)), .c (.pv (.b false)), .c (.pv (.b false)), .c (.pv (.b false)), .c (.pv (.b false)), .c (.pv (.b false))], (some 8), none⟩,
    ⟨(.call 25), [.t 7, .t 8], (some 9), none⟩,
    ⟨(.bldV 8 1), [.c (.pv (.i .u32 1)), .c (.pv (.i .u32 0)), .c (.pv (.i .u32 0)), .c (.pv (.i .u32 0)), .c (.pv (.i .u32 0)), .c (.pv (.i .u32 0)), .c (.pv (.i .u32 0)), .c (.pv (.i .u32 0))], (some 10), none⟩,
    ⟨(.eqv false [.int .u32, .int .u32, .int .u32, .int .u32, .int .u32, .int .u32, .int .u32, .int .u32]), [.t 9, .t 10], (some 11), none⟩,
    ⟨.mv, [.t 11], (some 12), none⟩,
    ⟨(.ld 64 true), [.t 1], (some 13), (some (12, true))⟩,
    ⟨(.call 26), [.t 13], (some 14), (some (12, true))⟩,
    ⟨(.bldV 8 1), [.c (.pv (.i .u32 2)), .c (.pv (.i .u32 3)), .c (.pv (.i .u32 0)), .c (.pv (.i .u32 0)), .c (.pv (.i .u32 0)), .c (.pv (.i .u32 0)), .c (.pv (.i .u32 0)), .c (.pv (.i .u32 0))], (some 15), (some (12, true))⟩,
    ⟨(.eqv false [.int .u32, .int .u32, .int .u32, .int .u32, .int .u32, .int .u32, .int .u32, .int .u32]), [.t 14, .t 15], (some 16), (some (12, true))⟩,
    ⟨.pick, [.t 12, .t 16, .c (.pv (.b false))], (some 17), none⟩,
    ⟨.mv, [.t 17], (some 18), none⟩,
    ⟨(.ld 64 true), [.t 1], (some 19), (some (18, true))⟩,
    ⟨(.call 31), [.t 19, .c (.pv (.i .i64 2))], (some 20), (some (18, true))⟩,
    ⟨(.bldV 8 1), [.c (.pv (.i .u32 1)), .c (.pv (.i .u32 3)), .c (.pv (.i .u32 0)), .c (.pv (.i .u32 0)), .c (.pv (.i .u32 0)), .c (.pv (.i .u32 0)), .c (.pv (.i .u32 0)), .c (.pv (.i .u32 0))], (some 21), (some (18, true))⟩,
    ⟨(.eqv false [.int .u32, .int .u32, .int .u32, .int .u32, .int .u32, .int .u32, .int .u32, .int .u32]), [.t 20, .t 21], (some 22), (some (18, true))⟩,
    ⟨.pick, [.t 18, .t 22, .c (.pv (.b false))], (some 23), none⟩,
    ⟨.mv, [.t 23], (some 0), none⟩])
  .ret)))
theorem fn23 : fnOf Try.prog 23 = some (24, [.t 0], ir23) := by kernel_rfl
def ir24 : C :=
  (.seq (.ops [⟨.box, [.t 0], (some 3), none⟩,
    ⟨.box, [.t 2], (some 5), none⟩,
    ⟨(.new (.vec 64 (List.replicate 64 (.i .u32 0)))), [], (some 6), none⟩])
  (.seq (.seq (.ops [⟨.mv, [.t 1], (some 7), none⟩,
    ⟨(.bin .geq), [.t 7, .c (.pv (.i .i64 1))], (some 8), none⟩,
    ⟨.mv, [.t 8], (some 9), none⟩,
    ⟨.mv, [.t 1], (some 10), (some (9, true))⟩,
    ⟨(.bin .leq), [.t 10, .c (.pv (.i .i64 8))], (some 11), (some (9, true))⟩,
    ⟨.pick, [.t 9, .t 11, .c (.pv (.b false))], (some 12), none⟩])
  (.ite (.t 12) (.any [20] [(⟨.mv, [.t 1], (some 13), none⟩, 0),
      (⟨(.bin .sub), [.t 13, .c (.pv (.i .i64 1))], (some 14), none⟩, 0),
      (⟨.mv, [.t 1], (some 15), none⟩, 0),
      (⟨(.bin .sub), [.t 15, .c (.pv (.i .i64 1))], (some 16), none⟩, 0),
      (⟨(.iaA 8 8), [.t 3, .t 16], (some 17), none⟩, 0),
      (⟨(.ld 8 true), [.t 17], (some 18), none⟩, 1),
      (⟨(.ld 8 true), [.t 5], (some 19), none⟩, 1),
      (⟨(.call 39), [.t 18, .t 19], (some 20), none⟩, 1),
      (⟨(.iaA 8 8), [.t 3, .t 14], (some 21), none⟩, 0),
      (⟨(.sto 8), [.t 21, .t 20], none, none⟩, 2)])
    .skip))
  (.seq (.ops [⟨(.ld 64 true), [.t 3], (some 22), none⟩,
    ⟨(.sto 64), [.t 6, .t 22], none, none⟩])
  .ret)))
theorem fn24 : fnOf Try.prog 24 = some (23, [.c 6 64 true], ir24) := by kernel_rfl
def ir25 : C :=
  (.seq (.ops [⟨.box, [.t 0], (some 2), none⟩,
    ⟨.box, [.t 1], (some 3), none⟩,
    ⟨(.new (.vec 8 (List.replicate 8 (.i .u32 0)))), [], (some 4), none⟩])
  (.seq (.ops [⟨(.new (.vec 8 (List.replicate 8 (.i .u32 0)))), [], (some 5), none⟩])
  (.seq (.ops [⟨.mv, [.c (.pv (.b false))], (some 6), none⟩])
  (.seq (.seq (.ops [⟨(.ld 64 true), [.t 2], (some 9), none⟩,
    ⟨.mv, [.c (.pv (.i .i64 0))], (some 10), none⟩])
  (.block 0 (.loop (.seq (.ops [⟨(.bin .lss), [.t 10, .c (.pv (.i .i64 8))], (some 11), none⟩])
      (.seq (.ite (.t 11) .skip
        (.exit 0))
      (.seq (.block 1 (.seq (.ops [⟨.mv, [.t 10], (some 12), none⟩,
          ⟨(.ixA 8 8 true), [.t 9, .t 10], (some 13), none⟩,
          ⟨(.new (.vec 8 (List.replicate 8 (.i .u32 0)))), [], (some 8), none⟩,
          ⟨.mv, [.t 12], (some 7), none⟩,
          ⟨(.sto 8), [.t 8, .t 13], none, none⟩])
        (.block 2 (.seq (.ops [⟨.mv, [.t 7], (some 16), none⟩,
            ⟨(.iaA 8 1), [.t 3, .t 16], (some 17), none⟩,
            ⟨(.ld 1 false), [.t 17], (some 18), none⟩,
            ⟨(.un .not), [.t 18], (some 19), none⟩,
            ⟨.mv, [.t 19], (some 15), none⟩])
          (.ite (.t 15) .skip
            (.seq (.ops [⟨.mv, [.t 6], (some 21), none⟩,
              ⟨.mv, [.t 21], (some 20), none⟩])
            (.ite (.t 20) (.ops [⟨(.ld 8 true), [.t 5], (some 22), none⟩,
                ⟨(.ld 8 true), [.t 8], (some 23), none⟩,
                ⟨(.call 40), [.t 22, .t 23], (some 24), none⟩,
                ⟨(.sto 8), [.t 5, .t 24], none, none⟩])
              (.ops [⟨(.ld 8 true), [.t 8], (some 14), none⟩,
                ⟨(.sto 8), [.t 5, .t 14], none, none⟩,
                ⟨.mv, [.c (.pv (.b true))], (some 6), none⟩]))))))))
      (.ops [⟨(.bin .add), [.t 10, .c (.pv (.i .i64 1))], (some 25), none⟩,
        ⟨.mv, [.t 25], (some 10), none⟩])))))))
  (.seq (.ops [⟨(.ld 8 true), [.t 5], (some 26), none⟩,
    ⟨(.sto 8), [.t 4, .t 26], none, none⟩])
  .ret)))))
theorem fn25 : fnOf Try.prog 25 = some (27, [.c 4 8 true], ir25) := by kernel_rfl
def ir26 : C :=
  (.seq (.ops [⟨.box, [.t 0], (some 1), none⟩,
    ⟨(.new (.vec 8 (List.replicate 8 (.i .u32 0)))), [], (some 2), none⟩])
  (.seq (.ops [⟨(.new (.vec 8 (List.replicate 8 (.i .u32 0)))), [], (some 3), none⟩])
  (.seq (.seq (.ops [⟨(.ld 64 true), [.t 1], (some 6), none⟩,
    ⟨.mv, [.c (.pv (.i .i64 0))], (some 7), none⟩])
  (.block 0 (.loop (.seq (.ops [⟨(.bin .lss), [.t 7, .c (.pv (.i .i64 8))], (some 8), none⟩])
      (.seq (.ite (.t 8) .skip
        (.exit 0))
      (.seq (.block 1 (.seq (.ops [⟨(.ixA 8 8 true), [.t 6, .t 7], (some 9), none⟩,
          ⟨(.new (.vec 8 (List.replicate 8 (.i .u32 0)))), [], (some 5), none⟩,
          ⟨(.sto 8), [.t 5, .t 9], none, none⟩])
        (.ops [⟨(.ld 8 true), [.t 3], (some 10), none⟩,
          ⟨(.ld 8 true), [.t 5], (some 11), none⟩,
          ⟨(.call 39), [.t 10, .t 11], (some 12), none⟩,
          ⟨(.sto 8), [.t 3, .t 12], none, none⟩])))
      (.ops [⟨(.bin .add), [.t 7, .c (.pv (.i .i64 1))], (some 13), none⟩,
        ⟨.mv, [.t 13], (some 7), none⟩])))))))
  (.seq (.ops [⟨(.ld 8 true), [.t 3], (some 14), none⟩,
    ⟨(.sto 8), [.t 2, .t 14], none, none⟩])
  .ret))))
theorem fn26 : fnOf Try.prog 26 = some (15, [.c 2 8 true], ir26) := by kernel_rfl
def ir27 : C :=
  (.seq (.ops [⟨.box, [.t 0], (some 2), none⟩,
    ⟨.box, [.t 1], (some 3), none⟩,
    ⟨.mv, [.c (.pv (.b false))], (some 4), none⟩])
  (.seq (.ops [⟨(.ld 8 true), [.t 2], (some 5), none⟩,
    ⟨(.ld 8 true), [.t 3], (some 6), none⟩,
    ⟨(.call 41), [.t 5, .t 6], (some 7), none⟩,
    ⟨(.bin .leq), [.t 7, .c (.pv (.i .i64 0))], (some 8), none⟩,
    ⟨.mv, [.t 8], (some 4), none⟩])
  .ret))
theorem fn27 : fnOf Try.prog 27 = some (9, [.t 4], ir27) := by kernel_rfl
def ir28 : C :=
  (.seq (.ops [⟨.box, [.t 0], (some 3), none⟩,
    ⟨.box, [.t 2], (some 5), none⟩,
    ⟨(.new (.vec 64 (List.replicate 64 (.i .u32 0)))), [], (some 6), none⟩])
  (.seq (.seq (.ops [⟨.mv, [.c (.pv (.i .i64 0))], (some 7), none⟩])
  (.block 0 (.loop (.seq (.seq (.ops [⟨.mv, [.t 7], (some 9), none⟩,
        ⟨(.bin .lss), [.t 9, .c (.pv (.i .i64 8))], (some 10), none⟩])
      (.ite (.t 10) .skip
        (.exit 0)))
      (.seq (.block 1 (.seq (.ops [⟨.mv, [.c (.pv (.i .i64 0))], (some 8), none⟩])
        (.block 2 (.loop (.seq (.seq (.ops [⟨.mv, [.t 8], (some 13), none⟩,
              ⟨(.bin .lss), [.t 13, .c (.pv (.i .i64 8))], (some 14), none⟩])
            (.ite (.t 14) .skip
              (.exit 2)))
            (.seq (.block 3 (.seq (.any [] [(⟨.mv, [.t 7], (some 17), none⟩, 0),
                (⟨(.bin .add), [.t 17, .c (.pv (.i .i64 1))], (some 18), none⟩, 0),
                (⟨.mv, [.t 1], (some 19), none⟩, 0),
                (⟨(.bin .eql), [.t 18, .t 19], (some 20), none⟩, 0),
                (⟨.mv, [.t 20], (some 21), none⟩, 0),
                (⟨.mv, [.t 8], (some 22), (some (21, true))⟩, 0),
                (⟨(.iaA 8 1), [.t 5, .t 22], (some 23), (some (21, true))⟩, 0),
                (⟨(.ld 1 false), [.t 23], (some 24), (some (21, true))⟩, 1),
                (⟨.mv, [.t 7], (some 25), (some (21, true))⟩, 0),
                (⟨.mv, [.t 8], (some 26), (some (21, true))⟩, 0),
                (⟨(.iaA 8 8), [.t 3, .t 25], (some 27), (some (21, true))⟩, 0),
                (⟨(.iaA 8 1), [.t 27, .t 26], (some 28), (some (21, true))⟩, 0),
                (⟨(.ld 1 false), [.t 28], (some 29), (some (21, true))⟩, 1),
                (⟨(.bin .gtr), [.t 24, .t 29], (some 30), (some (21, true))⟩, 0),
                (⟨.pick, [.t 21, .t 30, .c (.pv (.b false))], (some 31), none⟩, 0)])
              (.ite (.t 31) (.any [] [(⟨.mv, [.t 7], (some 32), none⟩, 0),
                  (⟨.mv, [.t 8], (some 33), none⟩, 0),
                  (⟨.mv, [.t 8], (some 34), none⟩, 0),
                  (⟨(.iaA 8 1), [.t 5, .t 34], (some 35), none⟩, 0),
                  (⟨(.ld 1 false), [.t 35], (some 36), none⟩, 1),
                  (⟨(.iaA 8 8), [.t 3, .t 32], (some 37), none⟩, 0),
                  (⟨(.iaA 8 1), [.t 37, .t 33], (some 38), none⟩, 0),
                  (⟨(.sto 1), [.t 38, .t 36], none, none⟩, 2)])
                .skip)))
            (.ops [⟨.mv, [.t 8], (some 15), none⟩,
              ⟨(.bin .add), [.t 15, .c (.pv (.i .i64 1))], (some 16), none⟩,
              ⟨.mv, [.t 16], (some 8), none⟩])))))))
      (.ops [⟨.mv, [.t 7], (some 11), none⟩,
        ⟨(.bin .add), [.t 11, .c (.pv (.i .i64 1))], (some 12), none⟩,
        ⟨.mv, [.t 12], (some 7), none⟩]))))))
  (.seq (.ops [⟨(.ld 64 true), [.t 3], (some 39), none⟩,
    ⟨(.sto 64), [.t 6, .t 39], none, none⟩])
  .ret)))
theorem fn28 : fnOf Try.prog 28 = some (40, [.c 6 64 true], ir28) := by kernel_rfl
def ir29 : C :=
  (.seq (.ops [⟨.box, [.t 0], (some 2), none⟩,
    ⟨.box, [.t 1], (some 3), none⟩,
    ⟨(.new (.vec 64 (List.replicate 64 (.i .u32 0)))), [], (some 4), none⟩])
  (.seq (.seq (.ops [⟨(.ld 64 true), [.t 3], (some 7), none⟩,
    ⟨.mv, [.c (.pv (.i .i64 0))], (some 8), none⟩])
  (.block 0 (.loop (.seq (.ops [⟨(.bin .lss), [.t 8, .c (.pv (.i .i64 8))], (some 9), none⟩])
      (.seq (.ite (.t 9) .skip
        (.exit 0))
      (.seq (.block 1 (.seq (.ops [⟨.mv, [.t 8], (some 10), none⟩,
          ⟨(.ixA 8 8 true), [.t 7, .t 8], (some 11), none⟩,
          ⟨(.new (.vec 8 (List.replicate 8 (.i .u32 0)))), [], (some 6), none⟩,
          ⟨.mv, [.t 10], (some 5), none⟩,
          ⟨(.sto 8), [.t 6, .t 11], none, none⟩])
        (.any [17] [(⟨.mv, [.t 5], (some 12), none⟩, 0),
          (⟨.mv, [.t 5], (some 13), none⟩, 0),
          (⟨(.iaA 8 8), [.t 2, .t 13], (some 14), none⟩, 0),
          (⟨(.ld 8 true), [.t 14], (some 15), none⟩, 1),
          (⟨(.ld 8 true), [.t 6], (some 16), none⟩, 1),
          (⟨(.call 39), [.t 15, .t 16], (some 17), none⟩, 1),
          (⟨(.iaA 8 8), [.t 2, .t 12], (some 18), none⟩, 0),
          (⟨(.sto 8), [.t 18, .t 17], none, none⟩, 2)])))
      (.ops [⟨(.bin .add), [.t 8, .c (.pv (.i .i64 1))], (some 19), none⟩,
        ⟨.mv, [.t 19], (some 8), none⟩])))))))
  (.seq (.ops [⟨(.ld 64 true), [.t 2], (some 20), none⟩,
    ⟨(.sto 64), [.t 4, .t 20], none, none⟩])
  .ret)))
theorem fn29 : fnOf Try.prog 29 = some (21, [.c 4 64 true], ir29) := by kernel_rfl
def ir30 : C :=
  (.seq (.ops [⟨.box, [.t 0], (some 2), none⟩,
    ⟨.box, [.t 1], (some 3), none⟩,
    ⟨(.new (.vec 64 (List.replicate 64 (.i .u32 0)))), [], (some 4), none⟩])
  (.seq (.seq (.ops [⟨.mv, [.c (.pv (.i .i64 0))], (some 5), none⟩])
  (.block 0 (.loop (.seq (.seq (.ops [⟨.mv, [.t 5], (some 6), none⟩,
        ⟨(.bin .lss), [.t 6, .c (.pv (.i .i64 8))], (some 7), none⟩])
      (.ite (.t 7) .skip
        (.exit 0)))
      (.seq (.block 1 (.any [16] [(⟨(.ld 64 true), [.t 2], (some 10), none⟩, 1),
          (⟨.mv, [.t 5], (some 11), none⟩, 0),
          (⟨(.bin .add), [.t 11, .c (.pv (.i .i64 1))], (some 12), none⟩, 0),
          (⟨.mv, [.t 5], (some 13), none⟩, 0),
          (⟨(.iaA 8 8), [.t 3, .t 13], (some 14), none⟩, 0),
          (⟨(.ld 8 true), [.t 14], (some 15), none⟩, 1),
          (⟨(.call 28), [.t 10, .t 12, .t 15], (some 16), none⟩, 1),
          (⟨(.sto 64), [.t 2, .t 16], none, none⟩, 2)]))
      (.ops [⟨.mv, [.t 5], (some 8), none⟩,
        ⟨(.bin .add), [.t 8, .c (.pv (.i .i64 1))], (some 9), none⟩,
        ⟨.mv, [.t 9], (some 5), none⟩]))))))
  (.seq (.ops [⟨(.ld 64 true), [.t 2], (some 17), none⟩,
    ⟨(.sto 64), [.t 4, .t 17], none, none⟩])
  .ret)))
theorem fn30 : fnOf Try.prog 30 = some (18, [.c 4 64 true], ir30) := by kernel_rfl
def ir31 : C :=
  (.seq (.ops [⟨.box, [.t 0], (some 2), none⟩,
    ⟨(.new (.vec 8 (List.replicate 8 (.i .u32 0)))), [], (some 4), none⟩])
  (.seq (.seq (.ops [⟨.mv, [.t 1], (some 5), none⟩,
    ⟨(.bin .lss), [.t 5, .c (.pv (.i .i64 1))], (some 6), none⟩,
    ⟨.mv, [.t 6], (some 7), none⟩,
    ⟨.mv, [.t 1], (some 8), (some (7, false))⟩,
    ⟨(.bin .gtr), [.t 8, .c (.pv (.i .i64 8))], (some 9), (some (7, false))⟩,
    ⟨.pick, [.t 7, .c (.pv (.b true)), .t 9], (some 10), none⟩])
  (.ite (.t 10) (.seq (.ops [⟨(.bldV 8 1), [.c (.pv (.i .u32 0)), .c (.pv (.i .u32 0)), .c (.pv (.i .u32 0)), .c (.pv (.i .u32 0)), .c (.pv (.i .u32 0)), .c (.pv (.i .u32 0)), .c (.pv (.i .u32 0)), .c (.pv (.i .u32 0))], (some 11), none⟩,
      ⟨(.sto 8), [.t 4, .t 11], none, none⟩])
    .ret)
    .skip))
  (.seq (.ops [⟨.mv, [.t 1], (some 12), none⟩,
    ⟨(.bin .sub), [.t 12, .c (.pv (.i .i64 1))], (some 13), none⟩,
    ⟨(.iaA 8 8), [.t 2, .t 13], (some 14), none⟩,
    ⟨(.ld 8 true), [.t 14], (some 15), none⟩,
    ⟨(.sto 8), [.t 4, .t 15], none, none⟩])
  .ret)))
theorem fn31 : fnOf Try.prog 31 = some (16, [.c 4 8 true], ir31) := by kernel_rfl
def ir39 : C :=
  (.seq (.ops [⟨.box, [.t 0], (some 2), none⟩,
    ⟨.box, [.t 1], (some 3), none⟩,
    ⟨(.new (.vec 8 (List.replicate 8 (.i .u32 0)))), [], (some 4), none⟩])
  (.seq (.seq (.ops [⟨(.ld 8 true), [.t 3], (some 7), none⟩,
    ⟨.mv, [.c (.pv (.i .i64 0))], (some 8), none⟩])
  (.block 0 (.loop (.seq (.ops [⟨(.bin .lss), [.t 8, .c (.pv (.i .i64 8))], (some 9), none⟩])
      (.seq (.ite (.t 9) .skip
        (.exit 0))
      (.seq (.block 1 (.seq (.ops [⟨.mv, [.t 8], (some 10), none⟩,
          ⟨(.ixA 8 1 false), [.t 7, .t 8], (some 11), none⟩,
          ⟨.mv, [.t 10], (some 5), none⟩,
          ⟨.mv, [.t 11], (some 6), none⟩])
        (.ops [⟨.mv, [.t 5], (some 12), none⟩,
          ⟨.mv, [.t 5], (some 13), none⟩,
          ⟨(.iaA 8 1), [.t 2, .t 13], (some 14), none⟩,
          ⟨(.ld 1 false), [.t 14], (some 15), none⟩,
          ⟨.mv, [.t 6], (some 16), none⟩,
          ⟨.mx, [.t 15, .t 16], (some 17), none⟩,
          ⟨(.iaA 8 1), [.t 2, .t 12], (some 18), none⟩,
          ⟨(.sto 1), [.t 18, .t 17], none, none⟩])))
      (.ops [⟨(.bin .add), [.t 8, .c (.pv (.i .i64 1))], (some 19), none⟩,
        ⟨.mv, [.t 19], (some 8), none⟩])))))))
  (.seq (.ops [⟨(.ld 8 true), [.t 2], (some 20), none⟩,
    ⟨(.sto 8), [.t 4, .t 20], none, none⟩])
  .ret)))
theorem fn39 : fnOf Try.prog 39 = some (21, [.c 4 8 true], ir39) := by kernel_rfl
def ir40 : C :=
  (.seq (.ops [⟨.box, [.t 0], (some 2), none⟩,
    ⟨.box, [.t 1], (some 3), none⟩,
    ⟨(.new (.vec 8 (List.replicate 8 (.i .u32 0)))), [], (some 4), none⟩])
  (.seq (.seq (.ops [⟨(.ld 8 true), [.t 3], (some 7), none⟩,
    ⟨.mv, [.c (.pv (.i .i64 0))], (some 8), none⟩])
  (.block 0 (.loop (.seq (.ops [⟨(.bin .lss), [.t 8, .c (.pv (.i .i64 8))], (some 9), none⟩])
      (.seq (.ite (.t 9) .skip
        (.exit 0))
      (.seq (.block 1 (.seq (.ops [⟨.mv, [.t 8], (some 10), none⟩,
          ⟨(.ixA 8 1 false), [.t 7, .t 8], (some 11), none⟩,
          ⟨.mv, [.t 10], (some 5), none⟩,
          ⟨.mv, [.t 11], (some 6), none⟩])
        (.ops [⟨.mv, [.t 5], (some 12), none⟩,
          ⟨.mv, [.t 5], (some 13), none⟩,
          ⟨(.iaA 8 1), [.t 2, .t 13], (some 14), none⟩,
          ⟨(.ld 1 false), [.t 14], (some 15), none⟩,
          ⟨.mv, [.t 6], (some 16), none⟩,
          ⟨.mn, [.t 15, .t 16], (some 17), none⟩,
          ⟨(.iaA 8 1), [.t 2, .t 12], (some 18), none⟩,
          ⟨(.sto 1), [.t 18, .t 17], none, none⟩])))
      (.ops [⟨(.bin .add), [.t 8, .c (.pv (.i .i64 1))], (some 19), none⟩,
        ⟨.mv, [.t 19], (some 8), none⟩])))))))
  (.seq (.ops [⟨(.ld 8 true), [.t 2], (some 20), none⟩,
    ⟨(.sto 8), [.t 4, .t 20], none, none⟩])
  .ret)))
theorem fn40 : fnOf Try.prog 40 = some (21, [.c 4 8 true], ir40) := by kernel_rfl
def ir41 : C :=
  (.seq (.ops [⟨.box, [.t 0], (some 2), none⟩,
    ⟨.box, [.t 1], (some 3), none⟩,
    ⟨.mv, [.c (.pv (.i .i64 0))], (some 4), none⟩])
  (.seq (.ops [⟨.mv, [.c (.pv (.b false))], (some 5), none⟩,
    ⟨.mv, [.c (.pv (.b false))], (some 6), none⟩])
  (.seq (.seq (.ops [⟨.mv, [.c (.pv (.i .i64 0))], (some 7), none⟩])
  (.block 0 (.loop (.seq (.seq (.ops [⟨.mv, [.t 7], (some 8), none⟩,
        ⟨(.bin .lss), [.t 8, .c (.pv (.i .i64 8))], (some 9), none⟩])
      (.ite (.t 9) .skip
        (.exit 0)))
      (.seq (.block 1 (.seq (.any [] [(⟨.mv, [.t 5], (some 12), none⟩, 0),
          (⟨.mv, [.t 12], (some 13), none⟩, 0),
          (⟨.mv, [.t 7], (some 14), (some (13, false))⟩, 0),
          (⟨(.iaA 8 1), [.t 2, .t 14], (some 15), (some (13, false))⟩, 0),
          (⟨(.ld 1 false), [.t 15], (some 16), (some (13, false))⟩, 1),
          (⟨.mv, [.t 7], (some 17), (some (13, false))⟩, 0),
          (⟨(.iaA 8 1), [.t 3, .t 17], (some 18), (some (13, false))⟩, 0),
          (⟨(.ld 1 false), [.t 18], (some 19), (some (13, false))⟩, 1),
          (⟨(.bin .lss), [.t 16, .t 19], (some 20), (some (13, false))⟩, 0),
          (⟨.pick, [.t 13, .c (.pv (.b true)), .t 20], (some 21), none⟩, 0),
          (⟨.mv, [.t 21], (some 5), none⟩, 0)])
        (.any [] [(⟨.mv, [.t 6], (some 22), none⟩, 0),
          (⟨.mv, [.t 22], (some 23), none⟩, 0),
          (⟨.mv, [.t 7], (some 24), (some (23, false))⟩, 0),
          (⟨(.iaA 8 1), [.t 2, .t 24], (some 25), (some (23, false))⟩, 0),
          (⟨(.ld 1 false), [.t 25], (some 26), (some (23, false))⟩, 1),
          (⟨.mv, [.t 7], (some 27), (some (23, false))⟩, 0),
          (⟨(.iaA 8 1), [.t 3, .t 27], (some 28), (some (23, false))⟩, 0),
          (⟨(.ld 1 false), [.t 28], (some 29), (some (23, false))⟩, 1),
          (⟨(.bin .gtr), [.t 26, .t 29], (some 30), (some (23, false))⟩, 0),
          (⟨.pick, [.t 23, .c (.pv (.b true)), .t 30], (some 31), none⟩, 0),
          (⟨.mv, [.t 31], (some 6), none⟩, 0)])))
      (.ops [⟨.mv, [.t 7], (some 10), none⟩,
        ⟨(.bin .add), [.t 10, .c (.pv (.i .i64 1))], (some 11), none⟩,
        ⟨.mv, [.t 11], (some 7), none⟩]))))))
  (.seq (.block 2 (.seq (.ops [⟨.mv, [.t 5], (some 33), none⟩,
      ⟨.mv, [.t 33], (some 34), none⟩,
      ⟨.mv, [.t 6], (some 35), (some (34, true))⟩,
      ⟨.pick, [.t 34, .t 35, .c (.pv (.b false))], (some 36), none⟩,
      ⟨.mv, [.t 36], (some 32), none⟩])
    (.ite (.t 32) (.seq (.ops [⟨.mv, [.c (.pv (.i .i64 2))], (some 4), none⟩])
      .ret)
      (.seq (.ops [⟨.mv, [.t 5], (some 38), none⟩,
        ⟨.mv, [.t 38], (some 37), none⟩])
      (.ite (.t 37) (.seq (.ops [⟨.mv, [.c (.pv (.i .i64 (-1)))], (some 4), none⟩])
        .ret)
        (.seq (.ops [⟨.mv, [.t 6], (some 40), none⟩,
          ⟨.mv, [.t 40], (some 39), none⟩])
        (.ite (.t 39) (.seq (.ops [⟨.mv, [.c (.pv (.i .i64 1))], (some 4), none⟩])
          .ret)
          .skip)))))))
  (.seq (.ops [⟨.mv, [.c (.pv (.i .i64 0))], (some 4), none⟩])
  .ret)))))
theorem fn41 : fnOf Try.prog 41 = some (41, [.t 4], ir41) := by kernel_rfl
end Go.Proofs.Ytanjkpeaimhndaa.Fw
