/- The functions of the program in the small language, each checked against the program. -/
import Derived.Test.YtanjkpeaimhndaaFwC
import Derived.Test.YtanjkpeaimhndaaProg
import Derived.ProofKit
set_option linter.unusedVariables false
set_option linter.unusedSimpArgs false
set_option linter.unusedSectionVars false
set_option maxRecDepth 100000
namespace Go.Proofs.Ytanjkpeaimhndaa.Fw
theorem mixed : Try.prog.follows .mixedOrders = true := by kernel_rfl
def ir3 : C :=
  (.seq (.ops [⟨.mv, [.c (.pv (.b false))], (some 2), none⟩])
  (.seq (.seq (.ops [⟨(.call 15), [], (some 3), none⟩,
    ⟨(.un .not), [.t 3], (some 4), none⟩,
    ⟨.mv, [.t 4], (some 5), none⟩,
    ⟨.mv, [.t 0], (some 6), (some (5, false))⟩,
    ⟨.len, [.t 6], (some 7), (some (5, false))⟩,
    ⟨(.bin .gtr), [.t 7, .c (.pv (.i .i64 3000))], (some 8), (some (5, false))⟩,
    ⟨.pick, [.t 5, .c (.pv (.b true)), .t 8], (some 9), none⟩])
  (.ite (.t 9) (.seq (.ops [⟨(.call 15), [], (some 10), none⟩,
      ⟨.mv, [.t 10], (some 2), none⟩])
    .ret)
    .skip))
  (.seq (.any [12, 15] [(⟨.mv, [.t 0], (some 11), none⟩, 0),
    (⟨(.call 16), [.t 11], (some 12), none⟩, 1),
    (⟨.mv, [.t 0], (some 13), none⟩, 0),
    (⟨.b2s, [.t 13], (some 14), none⟩, 1),
    (⟨(.call 17), [.t 14], (some 15), none⟩, 1),
    (⟨(.bin .eql), [.t 12, .t 15], (some 16), none⟩, 0),
    (⟨.mv, [.t 16], (some 2), none⟩, 0)])
  .ret)))
theorem fn3 : fnOf Try.prog 3 = some (17, [.t 2], ir3) := by kernel_rfl
def ir15 : C :=
  (.seq (.ops [⟨.mv, [.c (.pv (.b false))], (some 0), none⟩])
  (.seq (.ops [⟨(.bsl 1), [.c (.pv (.i .u8 97)), .c (.pv (.i .u8 98)), .c (.pv (.i .u8 99))], (some 1), none⟩,
    ⟨.b2b, [.t 1], (some 2), none⟩,
    ⟨(.call 16), [.t 2], (some 3), none⟩,
    ⟨(.bin .eql), [.t 3, .c (.pv (.i .u32 38600999))], (some 4), none⟩,
    ⟨.mv, [.t 4], (some 0), none⟩])
  .ret))
theorem fn15 : fnOf Try.prog 15 = some (5, [.t 0], ir15) := by kernel_rfl
def ir16 : C :=
  (.seq (.ops [⟨.mv, [.c (.pv (.i .u32 0))], (some 2), none⟩])
  (.seq (.ops [⟨.mv, [.c (.pv (.i .u32 1))], (some 3), none⟩,
    ⟨.mv, [.c (.pv (.i .u32 0))], (some 4), none⟩])
  (.seq (.seq (.ops [⟨.mv, [.t 0], (some 7), none⟩,
    ⟨.len, [.t 7], (some 8), none⟩,
    ⟨.mv, [.c (.pv (.i .i64 0))], (some 9), none⟩])
  (.block 0 (.loop (.seq (.ops [⟨(.bin .lss), [.t 9, .t 8], (some 10), none⟩])
      (.seq (.ite (.t 10) .skip
        (.exit 0))
      (.seq (.block 1 (.seq (.ops [⟨(.iaS 1), [.t 7, .t 9], (some 11), none⟩,
          ⟨(.ld 1 false), [.t 11], (some 12), none⟩,
          ⟨.mv, [.t 12], (some 6), none⟩])
        (.seq (.ops [⟨.mv, [.t 3], (some 13), none⟩,
          ⟨.mv, [.t 6], (some 14), none⟩,
          ⟨(.cvI .u32), [.t 14], (some 15), none⟩,
          ⟨(.bin .add), [.t 13, .t 15], (some 16), none⟩,
          ⟨(.bin .rem), [.t 16, .c (.pv (.i .u32 65521))], (some 17), none⟩,
          ⟨.mv, [.t 17], (some 3), none⟩])
        (.ops [⟨.mv, [.t 4], (some 18), none⟩,
          ⟨.mv, [.t 3], (some 19), none⟩,
          ⟨(.bin .add), [.t 18, .t 19], (some 20), none⟩,
          ⟨(.bin .rem), [.t 20, .c (.pv (.i .u32 65521))], (some 21), none⟩,
          ⟨.mv, [.t 21], (some 4), none⟩]))))
      (.ops [⟨(.bin .add), [.t 9, .c (.pv (.i .i64 1))], (some 22), none⟩,
        ⟨.mv, [.t 22], (some 9), none⟩])))))))
  (.seq (.ops [⟨.mv, [.t 4], (some 23), none⟩,
    ⟨(.bin .shl), [.t 23, .c (.pv (.i .u64 16))], (some 24), none⟩,
    ⟨.mv, [.t 3], (some 25), none⟩,
    ⟨(.bin .or), [.t 24, .t 25], (some 26), none⟩,
    ⟨.mv, [.t 26], (some 2), none⟩])
  .ret))))
theorem fn16 : fnOf Try.prog 16 = some (27, [.t 2], ir16) := by kernel_rfl
def ir17 : C :=
  (.seq (.ops [⟨.mv, [.c (.pv (.i .u32 0))], (some 2), none⟩])
  (.seq (.ops [⟨.mv, [.c (.pv (.i .i64 1))], (some 3), none⟩,
    ⟨.mv, [.c (.pv (.i .i64 0))], (some 4), none⟩])
  (.seq (.seq (.ops [⟨.mv, [.c (.pv (.i .i64 0))], (some 5), none⟩])
  (.block 0 (.loop (.seq (.seq (.ops [⟨.mv, [.t 5], (some 6), none⟩,
        ⟨.mv, [.t 0], (some 7), none⟩,
        ⟨.lenS, [.t 7], (some 8), none⟩,
        ⟨(.bin .lss), [.t 6, .t 8], (some 9), none⟩])
      (.ite (.t 9) .skip
        (.exit 0)))
      (.seq (.block 1 (.seq (.ops [⟨.mv, [.t 3], (some 12), none⟩,
          ⟨.mv, [.t 0], (some 13), none⟩,
          ⟨.mv, [.t 5], (some 14), none⟩,
          ⟨.ixS, [.t 13, .t 14], (some 15), none⟩,
          ⟨(.cvI .i64), [.t 15], (some 16), none⟩,
          ⟨(.bin .add), [.t 12, .t 16], (some 17), none⟩,
          ⟨.mv, [.t 17], (some 3), none⟩])
        (.ops [⟨.mv, [.t 4], (some 18), none⟩,
          ⟨.mv, [.t 3], (some 19), none⟩,
          ⟨(.bin .rem), [.t 19, .c (.pv (.i .i64 65521))], (some 20), none⟩,
          ⟨(.bin .add), [.t 18, .t 20], (some 21), none⟩,
          ⟨.mv, [.t 21], (some 4), none⟩])))
      (.ops [⟨.mv, [.t 5], (some 10), none⟩,
        ⟨(.bin .add), [.t 10, .c (.pv (.i .i64 1))], (some 11), none⟩,
        ⟨.mv, [.t 11], (some 5), none⟩]))))))
  (.seq (.ops [⟨.mv, [.t 4], (some 22), none⟩,
    ⟨(.bin .rem), [.t 22, .c (.pv (.i .i64 65521))], (some 23), none⟩,
    ⟨(.cvI .u32), [.t 23], (some 24), none⟩,
    ⟨(.bin .mul), [.t 24, .c (.pv (.i .u32 65536))], (some 25), none⟩,
    ⟨.mv, [.t 3], (some 26), none⟩,
    ⟨(.bin .rem), [.t 26, .c (.pv (.i .i64 65521))], (some 27), none⟩,
    ⟨(.cvI .u32), [.t 27], (some 28), none⟩,
    ⟨(.bin .add), [.t 25, .t 28], (some 29), none⟩,
    ⟨.mv, [.t 29], (some 2), none⟩])
  .ret))))
theorem fn17 : fnOf Try.prog 17 = some (30, [.t 2], ir17) := by kernel_rfl
end Go.Proofs.Ytanjkpeaimhndaa.Fw
