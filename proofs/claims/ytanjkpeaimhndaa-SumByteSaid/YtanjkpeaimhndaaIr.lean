/- The functions of the program in the small language, each checked against the program. -/
import Derived.Test.YtanjkpeaimhndaaFwC
import Derived.Test.YtanjkpeaimhndaaProg
import Derived.ProofKit
set_option linter.unusedVariables false
set_option linter.unusedSimpArgs false
set_option linter.unusedSectionVars false
set_option maxRecDepth 100000
namespace Go.Proofs.Ytanjkpeaimhndaa.Fw
open Go.Proofs
theorem mixed : Try.prog.follows .mixedOrders = true := by kernel_rfl
def ir3 : C :=
  (.seq (.ops [⟨.mv, [.c (.pv (.b false))], (some 2), none⟩])
  (.seq (.seq (.ops [⟨(.call 15), [], (some 3), none⟩,
    ⟨(.un .not), [.t 3], (some 4), none⟩,
    ⟨.mv, [.t 4], (some 5), none⟩,
    ⟨.mv, [.t 0], (some 6), (some (5, false))⟩,
    ⟨.len, [.t 6], (some 7), (some (5, false))⟩,
    ⟨(.bin .gtr), [.t 7, .c (.pv (.i .i64 3000))], (some 8), (some (5, false))⟩,
    ⟨.pick, [.t 5, .c (.pv (.b true)), .t 8], (some 9), none⟩])
  (.ite (.t 9) (.seq (.ops [⟨(.call 15), [], (some 10), none⟩,
      ⟨.mv, [.t 10], (some 2), none⟩])
    .ret)
    .skip))
  (.seq (.any [12, 15] [(⟨.mv, [.t 0], (some 11), none⟩, 0),
    (⟨(.call 16), [.t 11], (some 12), none⟩, 1),
    (⟨.mv, [.t 0], (some 13), none⟩, 0),
    (⟨.b2s, [.t 13], (some 14), none⟩, 1),
    (⟨(.call 17), [.t 14], (some 15), none⟩, 1),
    (⟨(.bin .eql), [.t 12, .t 15], (some 16), none⟩, 0),
    (⟨.mv, [.t 16], (some 2), none⟩, 0)])
  .ret)))
theorem fn3 : fnOf Try.prog 3 = some (17, [.t 2], ir3) := by kernel_rfl
def ir5 : C :=
  (.seq (.ops [⟨.mv, [.c (.pv (.b false))], (some 4), none⟩])
  (.seq (.seq (.ops [⟨(.call 15), [], (some 8), none⟩,
    ⟨(.un .not), [.t 8], (some 9), none⟩,
    ⟨.mv, [.t 9], (some 10), none⟩,
    ⟨.mv, [.t 0], (some 11), (some (10, false))⟩,
    ⟨.len, [.t 11], (some 12), (some (10, false))⟩,
    ⟨(.bin .gtr), [.t 12, .c (.pv (.i .i64 400))], (some 13), (some (10, false))⟩,
    ⟨.pick, [.t 10, .c (.pv (.b true)), .t 13], (some 14), none⟩,
    ⟨.mv, [.t 14], (some 15), none⟩,
    ⟨.mv, [.t 0], (some 16), (some (15, false))⟩,
    ⟨.len, [.t 16], (some 17), (some (15, false))⟩,
    ⟨(.bin .eql), [.t 17, .c (.pv (.i .i64 0))], (some 18), (some (15, false))⟩,
    ⟨.pick, [.t 15, .c (.pv (.b true)), .t 18], (some 19), none⟩])
  (.ite (.t 19) (.seq (.ops [⟨(.call 15), [], (some 20), none⟩,
      ⟨.mv, [.t 20], (some 4), none⟩])
    .ret)
    .skip))
  (.seq (.ops [⟨.mv, [.t 1], (some 21), none⟩,
    ⟨(.cvI .u64), [.t 21], (some 22), none⟩,
    ⟨.mv, [.t 0], (some 23), none⟩,
    ⟨.len, [.t 23], (some 24), none⟩,
    ⟨(.cvI .u64), [.t 24], (some 25), none⟩,
    ⟨(.bin .rem), [.t 22, .t 25], (some 26), none⟩,
    ⟨(.cvI .i64), [.t 26], (some 27), none⟩,
    ⟨(.bin .add), [.c (.pv (.i .i64 1)), .t 27], (some 28), none⟩,
    ⟨.mv, [.t 28], (some 5), none⟩])
  (.seq (.ops [⟨.mv, [.t 0], (some 29), none⟩,
    ⟨.mv, [.t 5], (some 30), none⟩,
    ⟨(.slc 1 false true false), [.t 29, .t 30], (some 31), none⟩,
    ⟨(.call 16), [.t 31], (some 32), none⟩,
    ⟨.mv, [.t 32], (some 6), none⟩])
  (.seq (.seq (.ops [⟨.mv, [.t 5], (some 33), none⟩,
    ⟨.mv, [.t 33], (some 7), none⟩])
  (.block 0 (.loop (.seq (.seq (.ops [⟨.mv, [.t 7], (some 34), none⟩,
        ⟨.mv, [.t 0], (some 35), none⟩,
        ⟨.len, [.t 35], (some 36), none⟩,
        ⟨(.bin .lss), [.t 34, .t 36], (some 37), none⟩])
      (.ite (.t 37) .skip
        (.exit 0)))
      (.seq (.block 1 (.seq (.any [52] [(⟨.mv, [.t 6], (some 40), none⟩, 0),
          (⟨.mv, [.t 5], (some 41), none⟩, 0),
          (⟨.mv, [.t 0], (some 42), none⟩, 0),
          (⟨.mv, [.t 7], (some 43), none⟩, 0),
          (⟨.mv, [.t 5], (some 44), none⟩, 0),
          (⟨(.bin .sub), [.t 43, .t 44], (some 45), none⟩, 0),
          (⟨(.iaS 1), [.t 42, .t 45], (some 46), none⟩, 1),
          (⟨(.ld 1 false), [.t 46], (some 47), none⟩, 1),
          (⟨.mv, [.t 0], (some 48), none⟩, 0),
          (⟨.mv, [.t 7], (some 49), none⟩, 0),
          (⟨(.iaS 1), [.t 48, .t 49], (some 50), none⟩, 1),
          (⟨(.ld 1 false), [.t 50], (some 51), none⟩, 1),
          (⟨(.call 18), [.t 40, .t 41, .t 47, .t 51], (some 52), none⟩, 1),
          (⟨.mv, [.t 52], (some 6), none⟩, 0)])
        (.seq (.ops [⟨.mv, [.t 6], (some 53), none⟩,
          ⟨.mv, [.t 0], (some 54), none⟩,
          ⟨.mv, [.t 7], (some 55), none⟩,
          ⟨.mv, [.t 5], (some 56), none⟩,
          ⟨(.bin .sub), [.t 55, .t 56], (some 57), none⟩,
          ⟨(.bin .add), [.t 57, .c (.pv (.i .i64 1))], (some 58), none⟩,
          ⟨.mv, [.t 7], (some 59), none⟩,
          ⟨(.bin .add), [.t 59, .c (.pv (.i .i64 1))], (some 60), none⟩,
          ⟨(.slc 1 true true false), [.t 54, .t 58, .t 60], (some 61), none⟩,
          ⟨(.call 16), [.t 61], (some 62), none⟩,
          ⟨(.bin .neq), [.t 53, .t 62], (some 63), none⟩])
        (.ite (.t 63) (.seq (.ops [⟨.mv, [.c (.pv (.b false))], (some 4), none⟩])
          .ret)
          .skip))))
      (.ops [⟨.mv, [.t 7], (some 38), none⟩,
        ⟨(.bin .add), [.t 38, .c (.pv (.i .i64 1))], (some 39), none⟩,
        ⟨.mv, [.t 39], (some 7), none⟩]))))))
  (.seq (.ops [⟨.mv, [.c (.pv (.b true))], (some 4), none⟩])
  .ret))))))
theorem fn5 : fnOf Try.prog 5 = some (64, [.t 4], ir5) := by kernel_rfl
def ir7 : C :=
  (.seq (.ops [⟨.mv, [.c (.pv (.b false))], (some 6), none⟩])
  (.seq (.seq (.ops [⟨(.call 15), [], (some 10), none⟩,
    ⟨(.un .not), [.t 10], (some 11), none⟩,
    ⟨.mv, [.t 11], (some 12), none⟩,
    ⟨.mv, [.t 0], (some 13), (some (12, false))⟩,
    ⟨.len, [.t 13], (some 14), (some (12, false))⟩,
    ⟨(.bin .gtr), [.t 14, .c (.pv (.i .i64 2000))], (some 15), (some (12, false))⟩,
    ⟨.pick, [.t 12, .c (.pv (.b true)), .t 15], (some 16), none⟩,
    ⟨.mv, [.t 16], (some 17), none⟩,
    ⟨.mv, [.t 2], (some 18), (some (17, false))⟩,
    ⟨(.bin .eql), [.t 18, .c (.pv (.i .u8 0))], (some 19), (some (17, false))⟩,
    ⟨.pick, [.t 17, .c (.pv (.b true)), .t 19], (some 20), none⟩])
  (.ite (.t 20) (.seq (.ops [⟨(.call 15), [], (some 21), none⟩,
      ⟨.mv, [.t 21], (some 6), none⟩])
    .ret)
    .skip))
  (.seq (.ops [⟨.mv, [.t 0], (some 22), none⟩,
    ⟨(.call 20), [.t 22], (some 23), none⟩,
    ⟨.mv, [.t 23], (some 7), none⟩])
  (.seq (.seq (.ops [⟨.mv, [.t 7], (some 24), none⟩,
    ⟨.len, [.t 24], (some 25), none⟩,
    ⟨.mv, [.t 0], (some 26), none⟩,
    ⟨.len, [.t 26], (some 27), none⟩,
    ⟨(.bin .add), [.t 27, .c (.pv (.i .i64 4))], (some 28), none⟩,
    ⟨(.bin .neq), [.t 25, .t 28], (some 29), none⟩])
  (.ite (.t 29) (.seq (.ops [⟨.mv, [.c (.pv (.b false))], (some 6), none⟩])
    .ret)
    .skip))
  (.seq (.ops [⟨.mv, [.t 7], (some 30), none⟩,
    ⟨.mv, [.t 1], (some 31), none⟩,
    ⟨(.cvI .u64), [.t 31], (some 32), none⟩,
    ⟨.mv, [.t 7], (some 33), none⟩,
    ⟨.len, [.t 33], (some 34), none⟩,
    ⟨(.cvI .u64), [.t 34], (some 35), none⟩,
    ⟨(.bin .rem), [.t 32, .t 35], (some 36), none⟩,
    ⟨(.cvI .i64), [.t 36], (some 37), none⟩,
    ⟨(.iaS 1), [.t 30, .t 37], (some 38), none⟩,
    ⟨(.ld 1 false), [.t 38], (some 39), none⟩,
    ⟨.mv, [.t 2], (some 40), none⟩,
    ⟨(.bin .xor), [.t 39, .t 40], (some 41), none⟩,
    ⟨(.iaS 1), [.t 30, .t 37], (some 42), none⟩,
    ⟨(.sto 1), [.t 42, .t 41], none, none⟩])
  (.seq (.ops [⟨.mv, [.t 7], (some 44), none⟩,
    ⟨(.call 22), [.t 44], (some 45), none⟩,
    ⟨.mv, [.t 45], (some 43), none⟩,
    ⟨(.ext 0), [.t 43], (some 46), none⟩,
    ⟨(.ext 1), [.t 43], (some 47), none⟩,
    ⟨.mv, [.t 46], (some 8), none⟩,
    ⟨.mv, [.t 47], (some 9), none⟩])
  (.seq (.ops [⟨.mv, [.t 9], (some 48), none⟩,
    ⟨(.bin .eql), [.t 48, .c (.pv (.i .i64 9))], (some 49), none⟩,
    ⟨.mv, [.t 49], (some 50), none⟩,
    ⟨.mv, [.t 8], (some 51), (some (50, true))⟩,
    ⟨.len, [.t 51], (some 52), (some (50, true))⟩,
    ⟨(.bin .eql), [.t 52, .c (.pv (.i .i64 0))], (some 53), (some (50, true))⟩,
    ⟨.pick, [.t 50, .t 53, .c (.pv (.b false))], (some 54), none⟩,
    ⟨.mv, [.t 54], (some 6), none⟩])
  .ret)))))))
theorem fn7 : fnOf Try.prog 7 = some (55, [.t 6], ir7) := by kernel_rfl
def ir9 : C :=
  (.seq (.ops [⟨.mv, [.c (.pv (.b false))], (some 2), none⟩])
  (.seq (.seq (.ops [⟨(.call 15), [], (some 7), none⟩,
    ⟨(.un .not), [.t 7], (some 8), none⟩,
    ⟨.mv, [.t 8], (some 9), none⟩,
    ⟨.mv, [.t 0], (some 10), (some (9, false))⟩,
    ⟨.len, [.t 10], (some 11), (some (9, false))⟩,
    ⟨(.bin .gtr), [.t 11, .c (.pv (.i .i64 2000))], (some 12), (some (9, false))⟩,
    ⟨.pick, [.t 9, .c (.pv (.b true)), .t 12], (some 13), none⟩])
  (.ite (.t 13) (.seq (.ops [⟨(.call 15), [], (some 14), none⟩,
      ⟨.mv, [.t 14], (some 2), none⟩])
    .ret)
    .skip))
  (.seq (.ops [⟨.mv, [.t 0], (some 16), none⟩,
    ⟨(.call 20), [.t 16], (some 17), none⟩,
    ⟨(.call 20), [.t 17], (some 18), none⟩,
    ⟨(.call 22), [.t 18], (some 19), none⟩,
    ⟨.mv, [.t 19], (some 15), none⟩,
    ⟨(.ext 0), [.t 15], (some 20), none⟩,
    ⟨(.ext 1), [.t 15], (some 21), none⟩,
    ⟨.mv, [.t 20], (some 3), none⟩,
    ⟨.mv, [.t 21], (some 4), none⟩])
  (.seq (.ops [⟨.mv, [.t 3], (some 23), none⟩,
    ⟨(.call 22), [.t 23], (some 24), none⟩,
    ⟨.mv, [.t 24], (some 22), none⟩,
    ⟨(.ext 0), [.t 22], (some 25), none⟩,
    ⟨(.ext 1), [.t 22], (some 26), none⟩,
    ⟨.mv, [.t 25], (some 5), none⟩,
    ⟨.mv, [.t 26], (some 6), none⟩])
  (.seq (.ops [⟨.mv, [.t 4], (some 27), none⟩,
    ⟨(.bin .eql), [.t 27, .c (.pv (.i .i64 0))], (some 28), none⟩,
    ⟨.mv, [.t 28], (some 29), none⟩,
    ⟨.mv, [.t 6], (some 30), (some (29, true))⟩,
    ⟨(.bin .eql), [.t 30, .c (.pv (.i .i64 0))], (some 31), (some (29, true))⟩,
    ⟨.pick, [.t 29, .t 31, .c (.pv (.b false))], (some 32), none⟩,
    ⟨.mv, [.t 32], (some 33), none⟩,
    ⟨.mv, [.t 5], (some 34), (some (33, true))⟩,
    ⟨.b2s, [.t 34], (some 35), (some (33, true))⟩,
    ⟨.mv, [.t 0], (some 36), (some (33, true))⟩,
    ⟨.b2s, [.t 36], (some 37), (some (33, true))⟩,
    ⟨(.bin .eql), [.t 35, .t 37], (some 38), (some (33, true))⟩,
    ⟨.pick, [.t 33, .t 38, .c (.pv (.b false))], (some 39), none⟩,
    ⟨.mv, [.t 39], (some 40), none⟩,
    ⟨(.call 16), [.c (.pv (.sl true 0 []))], (some 41), (some (40, true))⟩,
    ⟨(.bin .eql), [.t 41, .c (.pv (.i .u32 1))], (some 42), (some (40, true))⟩,
    ⟨.pick, [.t 40, .t 42, .c (.pv (.b false))], (some 43), none⟩,
    ⟨.mv, [.t 43], (some 2), none⟩])
  .ret)))))
theorem fn9 : fnOf Try.prog 9 = some (44, [.t 2], ir9) := by kernel_rfl
def ir15 : C :=
  (.seq (.ops [⟨.mv, [.c (.pv (.b false))], (some 0), none⟩])
  (.seq (.ops [⟨(.bsl 1), [.c (.pv (.i .u8 97)), .c (.pv (.i .u8 98)), .c (.pv (.i .u8 99))], (some 1), none⟩,
    ⟨.b2b, [.t 1], (some 2), none⟩,
    ⟨(.call 16), [.t 2], (some 3), none⟩,
    ⟨(.bin .eql), [.t 3, .c (.pv (.i .u32 38600999))], (some 4), none⟩,
    ⟨.mv, [.t 4], (some 0), none⟩])
  .ret))
theorem fn15 : fnOf Try.prog 15 = some (5, [.t 0], ir15) := by kernel_rfl
def ir16 : C :=
  (.seq (.ops [⟨.mv, [.c (.pv (.i .u32 0))], (some 2), none⟩])
  (.seq (.ops [⟨.mv, [.c (.pv (.i .u32 1))], (some 3), none⟩,
    ⟨.mv, [.c (.pv (.i .u32 0))], (some 4), none⟩])
  (.seq (.seq (.ops [⟨.mv, [.t 0], (some 7), none⟩,
    ⟨.len, [.t 7], (some 8), none⟩,
    ⟨.mv, [.c (.pv (.i .i64 0))], (some 9), none⟩])
  (.block 0 (.loop (.seq (.ops [⟨(.bin .lss), [.t 9, .t 8], (some 10), none⟩])
      (.seq (.ite (.t 10) .skip
        (.exit 0))
      (.seq (.block 1 (.seq (.ops [⟨(.iaS 1), [.t 7, .t 9], (some 11), none⟩,
          ⟨(.ld 1 false), [.t 11], (some 12), none⟩,
          ⟨.mv, [.t 12], (some 6), none⟩])
        (.seq (.ops [⟨.mv, [.t 3], (some 13), none⟩,
          ⟨.mv, [.t 6], (some 14), none⟩,
          ⟨(.cvI .u32), [.t 14], (some 15), none⟩,
          ⟨(.bin .add), [.t 13, .t 15], (some 16), none⟩,
          ⟨(.bin .rem), [.t 16, .c (.pv (.i .u32 65521))], (some 17), none⟩,
          ⟨.mv, [.t 17], (some 3), none⟩])
        (.ops [⟨.mv, [.t 4], (some 18), none⟩,
          ⟨.mv, [.t 3], (some 19), none⟩,
          ⟨(.bin .add), [.t 18, .t 19], (some 20), none⟩,
          ⟨(.bin .rem), [.t 20, .c (.pv (.i .u32 65521))], (some 21), none⟩,
          ⟨.mv, [.t 21], (some 4), none⟩]))))
      (.ops [⟨(.bin .add), [.t 9, .c (.pv (.i .i64 1))], (some 22), none⟩,
        ⟨.mv, [.t 22], (some 9), none⟩])))))))
  (.seq (.ops [⟨.mv, [.t 4], (some 23), none⟩,
    ⟨(.bin .shl), [.t 23, .c (.pv (.i .u64 16))], (some 24), none⟩,
    ⟨.mv, [.t 3], (some 25), none⟩,
    ⟨(.bin .or), [.t 24, .t 25], (some 26), none⟩,
    ⟨.mv, [.t 26], (some 2), none⟩])
  .ret))))
theorem fn16 : fnOf Try.prog 16 = some (27, [.t 2], ir16) := by kernel_rfl
def ir17 : C :=
  (.seq (.ops [⟨.mv, [.c (.pv (.i .u32 0))], (some 2), none⟩])
  (.seq (.ops [⟨.mv, [.c (.pv (.i .i64 1))], (some 3), none⟩,
    ⟨.mv, [.c (.pv (.i .i64 0))], (some 4), none⟩])
  (.seq (.seq (.ops [⟨.mv, [.c (.pv (.i .i64 0))], (some 5), none⟩])
  (.block 0 (.loop (.seq (.seq (.ops [⟨.mv, [.t 5], (some 6), none⟩,
        ⟨.mv, [.t 0], (some 7), none⟩,
        ⟨.lenS, [.t 7], (some 8), none⟩,
        ⟨(.bin .lss), [.t 6, .t 8], (some 9), none⟩])
      (.ite (.t 9) .skip
        (.exit 0)))
      (.seq (.block 1 (.seq (.ops [⟨.mv, [.t 3], (some 12), none⟩,
          ⟨.mv, [.t 0], (some 13), none⟩,
          ⟨.mv, [.t 5], (some 14), none⟩,
          ⟨.ixS, [.t 13, .t 14], (some 15), none⟩,
          ⟨(.cvI .i64), [.t 15], (some 16), none⟩,
          ⟨(.bin .add), [.t 12, .t 16], (some 17), none⟩,
          ⟨.mv, [.t 17], (some 3), none⟩])
        (.ops [⟨.mv, [.t 4], (some 18), none⟩,
          ⟨.mv, [.t 3], (some 19), none⟩,
          ⟨(.bin .rem), [.t 19, .c (.pv (.i .i64 65521))], (some 20), none⟩,
          ⟨(.bin .add), [.t 18, .t 20], (some 21), none⟩,
          ⟨.mv, [.t 21], (some 4), none⟩])))
      (.ops [⟨.mv, [.t 5], (some 10), none⟩,
        ⟨(.bin .add), [.t 10, .c (.pv (.i .i64 1))], (some 11), none⟩,
        ⟨.mv, [.t 11], (some 5), none⟩]))))))
  (.seq (.ops [⟨.mv, [.t 4], (some 22), none⟩,
    ⟨(.bin .rem), [.t 22, .c (.pv (.i .i64 65521))], (some 23), none⟩,
    ⟨(.cvI .u32), [.t 23], (some 24), none⟩,
    ⟨(.bin .mul), [.t 24, .c (.pv (.i .u32 65536))], (some 25), none⟩,
    ⟨.mv, [.t 3], (some 26), none⟩,
    ⟨(.bin .rem), [.t 26, .c (.pv (.i .i64 65521))], (some 27), none⟩,
    ⟨(.cvI .u32), [.t 27], (some 28), none⟩,
    ⟨(.bin .add), [.t 25, .t 28], (some 29), none⟩,
    ⟨.mv, [.t 29], (some 2), none⟩])
  .ret))))
theorem fn17 : fnOf Try.prog 17 = some (30, [.t 2], ir17) := by kernel_rfl
def ir18 : C :=
  (.seq (.ops [⟨.mv, [.c (.pv (.i .u32 0))], (some 8), none⟩])
  (.seq (.ops [⟨.mv, [.t 0], (some 12), none⟩,
    ⟨(.bin .and), [.t 12, .c (.pv (.i .u32 65535))], (some 13), none⟩,
    ⟨(.cvI .u64), [.t 13], (some 14), none⟩,
    ⟨.mv, [.t 0], (some 15), none⟩,
    ⟨(.bin .shr), [.t 15, .c (.pv (.i .u64 16))], (some 16), none⟩,
    ⟨(.cvI .u64), [.t 16], (some 17), none⟩,
    ⟨.mv, [.t 14], (some 9), none⟩,
    ⟨.mv, [.t 17], (some 10), none⟩])
  (.seq (.ops [⟨.mv, [.t 1], (some 18), none⟩,
    ⟨(.cvI .u64), [.t 18], (some 19), none⟩,
    ⟨(.bin .rem), [.t 19, .c (.pv (.i .u64 65521))], (some 20), none⟩,
    ⟨.mv, [.t 20], (some 11), none⟩])
  (.seq (.seq (.ops [⟨.mv, [.t 1], (some 21), none⟩,
    ⟨(.bin .lss), [.t 21, .c (.pv (.i .i64 0))], (some 22), none⟩])
  (.ite (.t 22) (.ops [⟨.mv, [.c (.pv (.i .u64 0))], (some 11), none⟩])
    .skip))
  (.seq (.ops [⟨.mv, [.t 9], (some 23), none⟩,
    ⟨(.bin .add), [.t 23, .c (.pv (.i .u64 65521))], (some 24), none⟩,
    ⟨.mv, [.t 2], (some 25), none⟩,
    ⟨(.cvI .u64), [.t 25], (some 26), none⟩,
    ⟨(.bin .sub), [.t 24, .t 26], (some 27), none⟩,
    ⟨.mv, [.t 3], (some 28), none⟩,
    ⟨(.cvI .u64), [.t 28], (some 29), none⟩,
    ⟨(.bin .add), [.t 27, .t 29], (some 30), none⟩,
    ⟨(.bin .rem), [.t 30, .c (.pv (.i .u64 65521))], (some 31), none⟩,
    ⟨.mv, [.t 31], (some 9), none⟩])
  (.seq (.ops [⟨.mv, [.t 10], (some 32), none⟩,
    ⟨(.bin .add), [.t 32, .c (.pv (.i .u64 16773376))], (some 33), none⟩,
    ⟨.mv, [.t 11], (some 34), none⟩,
    ⟨.mv, [.t 2], (some 35), none⟩,
    ⟨(.cvI .u64), [.t 35], (some 36), none⟩,
    ⟨(.bin .mul), [.t 34, .t 36], (some 37), none⟩,
    ⟨(.bin .rem), [.t 37, .c (.pv (.i .u64 65521))], (some 38), none⟩,
    ⟨(.bin .sub), [.t 33, .t 38], (some 39), none⟩,
    ⟨.mv, [.t 9], (some 40), none⟩,
    ⟨(.bin .add), [.t 39, .t 40], (some 41), none⟩,
    ⟨(.bin .add), [.t 41, .c (.pv (.i .u64 65521))], (some 42), none⟩,
    ⟨(.bin .sub), [.t 42, .c (.pv (.i .u64 1))], (some 43), none⟩,
    ⟨(.bin .rem), [.t 43, .c (.pv (.i .u64 65521))], (some 44), none⟩,
    ⟨.mv, [.t 44], (some 10), none⟩])
  (.seq (.ops [⟨.mv, [.t 10], (some 45), none⟩,
    ⟨(.cvI .u32), [.t 45], (some 46), none⟩,
    ⟨(.bin .shl), [.t 46, .c (.pv (.i .u64 16))], (some 47), none⟩,
    ⟨.mv, [.t 9], (some 48), none⟩,
    ⟨(.cvI .u32), [.t 48], (some 49), none⟩,
    ⟨(.bin .or), [.t 47, .t 49], (some 50), none⟩,
    ⟨.mv, [.t 50], (some 8), none⟩])
  .ret)))))))
theorem fn18 : fnOf Try.prog 18 = some (51, [.t 8], ir18) := by kernel_rfl
def ir19 : C :=
  (.seq (.ops [⟨.mv, [.c (.pv (.i .u32 0))], (some 8), none⟩])
  (.seq (.seq (.ops [⟨.mv, [.t 1], (some 11), none⟩,
    ⟨(.bin .lss), [.t 11, .c (.pv (.i .i64 0))], (some 12), none⟩])
  (.ite (.t 12) (.ops [⟨.mv, [.c (.pv (.i .i64 0))], (some 1), none⟩])
    .skip))
  (.seq (.ops [⟨.mv, [.t 0], (some 13), none⟩,
    ⟨(.bin .rem), [.t 13, .c (.pv (.i .u32 65536))], (some 14), none⟩,
    ⟨(.cvI .i64), [.t 14], (some 15), none⟩,
    ⟨.mv, [.t 2], (some 16), none⟩,
    ⟨(.cvI .i64), [.t 16], (some 17), none⟩,
    ⟨(.bin .sub), [.t 15, .t 17], (some 18), none⟩,
    ⟨.mv, [.t 3], (some 19), none⟩,
    ⟨(.cvI .i64), [.t 19], (some 20), none⟩,
    ⟨(.bin .add), [.t 18, .t 20], (some 21), none⟩,
    ⟨(.bin .add), [.t 21, .c (.pv (.i .i64 65521))], (some 22), none⟩,
    ⟨(.bin .rem), [.t 22, .c (.pv (.i .i64 65521))], (some 23), none⟩,
    ⟨.mv, [.t 23], (some 9), none⟩])
  (.seq (.ops [⟨.mv, [.t 0], (some 24), none⟩,
    ⟨(.bin .quo), [.t 24, .c (.pv (.i .u32 65536))], (some 25), none⟩,
    ⟨(.cvI .i64), [.t 25], (some 26), none⟩,
    ⟨.mv, [.t 1], (some 27), none⟩,
    ⟨(.bin .rem), [.t 27, .c (.pv (.i .i64 65521))], (some 28), none⟩,
    ⟨.mv, [.t 2], (some 29), none⟩,
    ⟨(.cvI .i64), [.t 29], (some 30), none⟩,
    ⟨(.bin .mul), [.t 28, .t 30], (some 31), none⟩,
    ⟨(.bin .sub), [.t 26, .t 31], (some 32), none⟩,
    ⟨.mv, [.t 9], (some 33), none⟩,
    ⟨(.bin .add), [.t 32, .t 33], (some 34), none⟩,
    ⟨(.bin .sub), [.t 34, .c (.pv (.i .i64 1))], (some 35), none⟩,
    ⟨(.bin .rem), [.t 35, .c (.pv (.i .i64 65521))], (some 36), none⟩,
    ⟨.mv, [.t 36], (some 10), none⟩])
  (.seq (.seq (.ops [⟨.mv, [.t 10], (some 37), none⟩,
    ⟨(.bin .lss), [.t 37, .c (.pv (.i .i64 0))], (some 38), none⟩])
  (.ite (.t 38) (.ops [⟨.mv, [.t 10], (some 39), none⟩,
      ⟨(.bin .add), [.t 39, .c (.pv (.i .i64 65521))], (some 40), none⟩,
      ⟨.mv, [.t 40], (some 10), none⟩])
    .skip))
  (.seq (.ops [⟨.mv, [.t 10], (some 41), none⟩,
    ⟨(.cvI .u32), [.t 41], (some 42), none⟩,
    ⟨(.bin .mul), [.t 42, .c (.pv (.i .u32 65536))], (some 43), none⟩,
    ⟨.mv, [.t 9], (some 44), none⟩,
    ⟨(.cvI .u32), [.t 44], (some 45), none⟩,
    ⟨(.bin .add), [.t 43, .t 45], (some 46), none⟩,
    ⟨.mv, [.t 46], (some 8), none⟩])
  .ret))))))
theorem fn19 : fnOf Try.prog 19 = some (47, [.t 8], ir19) := by kernel_rfl
def ir20 : C :=
  (.seq (.ops [⟨.mv, [.c (.pv (.sl true 0 []))], (some 2), none⟩])
  (.seq (.ops [⟨.mv, [.t 0], (some 5), none⟩,
    ⟨(.call 16), [.t 5], (some 6), none⟩,
    ⟨.mv, [.t 6], (some 3), none⟩])
  (.seq (.ops [⟨(.bsl 1), [], (some 7), none⟩,
    ⟨.mv, [.t 0], (some 8), none⟩,
    ⟨(.app 1 1), [.t 7, .t 8], (some 9), none⟩,
    ⟨.mv, [.t 9], (some 4), none⟩])
  (.seq (.ops [⟨.mv, [.t 4], (some 10), none⟩,
    ⟨.mv, [.t 3], (some 11), none⟩,
    ⟨(.bin .shr), [.t 11, .c (.pv (.i .u64 24))], (some 12), none⟩,
    ⟨(.cvI .u8), [.t 12], (some 13), none⟩,
    ⟨.mv, [.t 3], (some 14), none⟩,
    ⟨(.bin .shr), [.t 14, .c (.pv (.i .u64 16))], (some 15), none⟩,
    ⟨(.cvI .u8), [.t 15], (some 16), none⟩,
    ⟨.mv, [.t 3], (some 17), none⟩,
    ⟨(.bin .shr), [.t 17, .c (.pv (.i .u64 8))], (some 18), none⟩,
    ⟨(.cvI .u8), [.t 18], (some 19), none⟩,
    ⟨.mv, [.t 3], (some 20), none⟩,
    ⟨(.cvI .u8), [.t 20], (some 21), none⟩,
    ⟨(.bsl 1), [.t 13, .t 16, .t 19, .t 21], (some 22), none⟩,
    ⟨(.app 1 1), [.t 10, .t 22], (some 23), none⟩,
    ⟨.mv, [.t 23], (some 2), none⟩])
  .ret))))
theorem fn20 : fnOf Try.prog 20 = some (24, [.t 2], ir20) := by kernel_rfl
def ir21 : C :=
  (.seq (.ops [⟨.mv, [.c (.pv (.s []))], (some 2), none⟩])
  (.seq (.ops [⟨.mv, [.t 0], (some 4), none⟩,
    ⟨(.call 17), [.t 4], (some 5), none⟩,
    ⟨.mv, [.t 5], (some 3), none⟩])
  (.seq (.ops [⟨.mv, [.t 0], (some 6), none⟩,
    ⟨.mv, [.t 3], (some 7), none⟩,
    ⟨(.bin .quo), [.t 7, .c (.pv (.i .u32 16777216))], (some 8), none⟩,
    ⟨(.cvI .u8), [.t 8], (some 9), none⟩,
    ⟨.mv, [.t 3], (some 10), none⟩,
    ⟨(.bin .quo), [.t 10, .c (.pv (.i .u32 65536))], (some 11), none⟩,
    ⟨(.cvI .u8), [.t 11], (some 12), none⟩,
    ⟨.mv, [.t 3], (some 13), none⟩,
    ⟨(.bin .quo), [.t 13, .c (.pv (.i .u32 256))], (some 14), none⟩,
    ⟨(.cvI .u8), [.t 14], (some 15), none⟩,
    ⟨.mv, [.t 3], (some 16), none⟩,
    ⟨(.cvI .u8), [.t 16], (some 17), none⟩,
    ⟨(.bsl 1), [.t 9, .t 12, .t 15, .t 17], (some 18), none⟩,
    ⟨.b2s, [.t 18], (some 19), none⟩,
    ⟨(.bin .add), [.t 6, .t 19], (some 20), none⟩,
    ⟨.mv, [.t 20], (some 2), none⟩])
  .ret)))
theorem fn21 : fnOf Try.prog 21 = some (21, [.t 2], ir21) := by kernel_rfl
def ir22 : C :=
  (.seq (.ops [⟨.mv, [.c (.pv (.sl true 0 []))], (some 2), none⟩,
    ⟨.mv, [.c (.pv (.i .i64 0))], (some 3), none⟩])
  (.seq (.ops [⟨.mv, [.t 0], (some 5), none⟩,
    ⟨.len, [.t 5], (some 6), none⟩,
    ⟨(.bin .sub), [.t 6, .c (.pv (.i .i64 4))], (some 7), none⟩,
    ⟨.mv, [.t 7], (some 4), none⟩])
  (.seq (.seq (.ops [⟨.mv, [.t 4], (some 8), none⟩,
    ⟨(.bin .lss), [.t 8, .c (.pv (.i .i64 0))], (some 9), none⟩])
  (.ite (.t 9) (.seq (.ops [⟨.mv, [.c (.pv (.sl true 0 []))], (some 2), none⟩,
      ⟨.mv, [.c (.pv (.i .i64 8))], (some 3), none⟩])
    .ret)
    .skip))
  (.seq (.seq (.anyF [13] [(⟨.mv, [.t 0], (some 10), none⟩, 0),
    (⟨.mv, [.t 4], (some 11), none⟩, 0),
    (⟨(.slc 1 false true false), [.t 10, .t 11], (some 12), none⟩, 1),
    (⟨(.call 20), [.t 12], (some 13), none⟩, 1),
    (⟨.b2s, [.t 13], (some 14), none⟩, 1),
    (⟨.mv, [.t 0], (some 15), none⟩, 0),
    (⟨.b2s, [.t 15], (some 16), none⟩, 1),
    (⟨(.bin .neq), [.t 14, .t 16], (some 17), none⟩, 0)])
  (.ite (.t 17) (.seq (.ops [⟨.mv, [.c (.pv (.sl true 0 []))], (some 2), none⟩,
      ⟨.mv, [.c (.pv (.i .i64 9))], (some 3), none⟩])
    .ret)
    .skip))
  (.seq (.ops [⟨(.bsl 1), [], (some 18), none⟩,
    ⟨.mv, [.t 0], (some 19), none⟩,
    ⟨.mv, [.t 4], (some 20), none⟩,
    ⟨(.slc 1 false true false), [.t 19, .t 20], (some 21), none⟩,
    ⟨(.app 1 1), [.t 18, .t 21], (some 22), none⟩,
    ⟨.mv, [.t 22], (some 2), none⟩,
    ⟨.mv, [.c (.pv (.i .i64 0))], (some 3), none⟩])
  .ret)))))
theorem fn22 : fnOf Try.prog 22 = some (23, [.t 2, .t 3], ir22) := by kernel_rfl
end Go.Proofs.Ytanjkpeaimhndaa.Fw
