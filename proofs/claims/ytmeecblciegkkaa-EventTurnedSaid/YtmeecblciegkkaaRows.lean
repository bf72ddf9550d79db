/-
  No cell of these rows narrows 'for every input' (looked for: loops, veiled, ifaces, maps, wideKeys, modest, calm, conditions, laid).
  DERIVED. THE GIVEN ROWS OF THIS SEAT. 11 by the template 'for every input the law returns true; each argument reads behind the call as it read before'; 0 by the template 'total and deterministic' (their statements: YtmeecblciegkkaaTotals.lean).
  GIVEN WITH THE SEED: the statements are not yours to turn. If you find one false, say at which input.
  Laid BY PROGRAM, IN A SANDBOX (cutbox-rows.mjs): the forced cells as the released guide's own fill.sh prints them over the translation 1a4935186ae32e3d… (all of the seat's roots in one cut). By AI agents, Wed Nov 11 2026. No macro, syntax, notation, axiom, sorry.
-/
import Derived.Test.YtmeecblciegkkaaChecked
import GoSem.Claim
import GoSem.ClaimJoined
import GoSem.ClaimMapViews
import Derived.JoinedTies
import Derived.KernelRfl
namespace Go.Proofs.Ytmeecblciegkkaa
/- THE CELL 'sum', in the pinned program and in every row, IS THE sha256 OF THE DUMP (.gsa) THAT YtmeecblciegkkaaProg.lean LOADS. Nothing in Lean hashes anything: it is a label: what it is worth is what the hold of that sum in a sandbox is worth. -/
noncomputable def Try.pinned : Pinned := { name := "ytmeecblciegkkaa", sum := "1a4935186ae32e3d3ae86d0b21167512cbefbf2970ff56d049b6099850c90779", checked := Try.checked }
namespace Rows
def none {H : Type} : Left H := { results := [], args := [] }

/-- 'wardshiplaw07.SpanOrders': WHATEVER THE INPUT: true; the input reads as it did. -/
def spanOrdersSpec : ChangeSpec := { name := "spanOrders", fn := fun _ => fun
  | [d1, d2, d3] => { results := [.lit (.bool true)], args := [d1, d2, d3] }
  | _ => none }
def spanOrdersRow : OpenClaim := { program := "ytmeecblciegkkaa", sum := "1a4935186ae32e3d3ae86d0b21167512cbefbf2970ff56d049b6099850c90779", func := "wardship/wardshiplaw07.SpanOrders", spec := "spanOrders", apart := false }
def SpanOrdersSaid : Prop := spanOrdersRow.holds Try.pinned (OpenSpec.ofChange spanOrdersSpec)

/-- ITS FALSE NEIGHBOUR: 'it returns false'. Refute it at one input. -/
def spanOrdersWrong : ChangeSpec := { name := "spanOrders", fn := fun _ => fun
  | [d1, d2, d3] => { results := [.lit (.bool false)], args := [d1, d2, d3] }
  | _ => none }
def SpanOrdersWrongFalsely : Prop := spanOrdersRow.holds Try.pinned (OpenSpec.ofChange spanOrdersWrong)

/-- 'wardshiplaw11.VersionBytes': WHATEVER THE INPUT: true; the input reads as it did. -/
def versionBytesSpec : ChangeSpec := { name := "versionBytes", fn := fun _ => fun
  | [d1, d2, d3] => { results := [.lit (.bool true)], args := [d1, d2, d3] }
  | _ => none }
def versionBytesRow : OpenClaim := { program := "ytmeecblciegkkaa", sum := "1a4935186ae32e3d3ae86d0b21167512cbefbf2970ff56d049b6099850c90779", func := "wardship/wardshiplaw11.VersionBytes", spec := "versionBytes", inPlace := ["slices.overlaps[wardship/api.Version]"], apart := false }
def VersionBytesSaid : Prop := versionBytesRow.holds Try.pinned (OpenSpec.ofChange versionBytesSpec)

/-- ITS FALSE NEIGHBOUR: 'it returns false'. Refute it at one input. -/
def versionBytesWrong : ChangeSpec := { name := "versionBytes", fn := fun _ => fun
  | [d1, d2, d3] => { results := [.lit (.bool false)], args := [d1, d2, d3] }
  | _ => none }
def VersionBytesWrongFalsely : Prop := versionBytesRow.holds Try.pinned (OpenSpec.ofChange versionBytesWrong)

/-- 'wardshiplaw11.VersionHeads': WHATEVER THE INPUT: true; the input reads as it did. -/
def versionHeadsSpec : ChangeSpec := { name := "versionHeads", fn := fun _ => fun
  | [d1, d2, d3] => { results := [.lit (.bool true)], args := [d1, d2, d3] }
  | _ => none }
def versionHeadsRow : OpenClaim := { program := "ytmeecblciegkkaa", sum := "1a4935186ae32e3d3ae86d0b21167512cbefbf2970ff56d049b6099850c90779", func := "wardship/wardshiplaw11.VersionHeads", spec := "versionHeads", inPlace := ["slices.overlaps[wardship/api.Version]"], apart := false }
def VersionHeadsSaid : Prop := versionHeadsRow.holds Try.pinned (OpenSpec.ofChange versionHeadsSpec)

/-- ITS FALSE NEIGHBOUR: 'it returns false'. Refute it at one input. -/
def versionHeadsWrong : ChangeSpec := { name := "versionHeads", fn := fun _ => fun
  | [d1, d2, d3] => { results := [.lit (.bool false)], args := [d1, d2, d3] }
  | _ => none }
def VersionHeadsWrongFalsely : Prop := versionHeadsRow.holds Try.pinned (OpenSpec.ofChange versionHeadsWrong)

/-- 'wardshiplaw11.VersionLine': WHATEVER THE INPUT: true; the input reads as it did. -/
def versionLineSpec : ChangeSpec := { name := "versionLine", fn := fun _ => fun
  | [d1, d2] => { results := [.lit (.bool true)], args := [d1, d2] }
  | _ => none }
def versionLineRow : OpenClaim := { program := "ytmeecblciegkkaa", sum := "1a4935186ae32e3d3ae86d0b21167512cbefbf2970ff56d049b6099850c90779", func := "wardship/wardshiplaw11.VersionLine", spec := "versionLine", inPlace := ["slices.overlaps[wardship/api.Version]"], apart := false }
def VersionLineSaid : Prop := versionLineRow.holds Try.pinned (OpenSpec.ofChange versionLineSpec)

/-- ITS FALSE NEIGHBOUR: 'it returns false'. Refute it at one input. -/
def versionLineWrong : ChangeSpec := { name := "versionLine", fn := fun _ => fun
  | [d1, d2] => { results := [.lit (.bool false)], args := [d1, d2] }
  | _ => none }
def VersionLineWrongFalsely : Prop := versionLineRow.holds Try.pinned (OpenSpec.ofChange versionLineWrong)

/-- 'wardshiplaw11.VersionAdds': WHATEVER THE INPUT: true; the input reads as it did. -/
def versionAddsSpec : ChangeSpec := { name := "versionAdds", fn := fun _ => fun
  | [d1, d2, d3] => { results := [.lit (.bool true)], args := [d1, d2, d3] }
  | _ => none }
def versionAddsRow : OpenClaim := { program := "ytmeecblciegkkaa", sum := "1a4935186ae32e3d3ae86d0b21167512cbefbf2970ff56d049b6099850c90779", func := "wardship/wardshiplaw11.VersionAdds", spec := "versionAdds", inPlace := ["slices.overlaps[wardship/api.Version]"], apart := false }
def VersionAddsSaid : Prop := versionAddsRow.holds Try.pinned (OpenSpec.ofChange versionAddsSpec)

/-- ITS FALSE NEIGHBOUR: 'it returns false'. Refute it at one input. -/
def versionAddsWrong : ChangeSpec := { name := "versionAdds", fn := fun _ => fun
  | [d1, d2, d3] => { results := [.lit (.bool false)], args := [d1, d2, d3] }
  | _ => none }
def VersionAddsWrongFalsely : Prop := versionAddsRow.holds Try.pinned (OpenSpec.ofChange versionAddsWrong)

/-- 'wardshiplaw11.VersionSweeps': WHATEVER THE INPUT: true; the input reads as it did. -/
def versionSweepsSpec : ChangeSpec := { name := "versionSweeps", fn := fun _ => fun
  | [d1, d2] => { results := [.lit (.bool true)], args := [d1, d2] }
  | _ => none }
def versionSweepsRow : OpenClaim := { program := "ytmeecblciegkkaa", sum := "1a4935186ae32e3d3ae86d0b21167512cbefbf2970ff56d049b6099850c90779", func := "wardship/wardshiplaw11.VersionSweeps", spec := "versionSweeps", inPlace := ["slices.overlaps[wardship/api.Version]"], unfollowed := true, recurses := true, apart := false }
def VersionSweepsSaid : Prop := versionSweepsRow.holds Try.pinned (OpenSpec.ofChange versionSweepsSpec)

/-- ITS FALSE NEIGHBOUR: 'it returns false'. Refute it at one input. -/
def versionSweepsWrong : ChangeSpec := { name := "versionSweeps", fn := fun _ => fun
  | [d1, d2] => { results := [.lit (.bool false)], args := [d1, d2] }
  | _ => none }
def VersionSweepsWrongFalsely : Prop := versionSweepsRow.holds Try.pinned (OpenSpec.ofChange versionSweepsWrong)

/-- 'wardshiplaw08.EventChecks': WHATEVER THE INPUT: true; the input reads as it did. -/
def eventChecksSpec : ChangeSpec := { name := "eventChecks", fn := fun _ => fun
  | [d1, d2] => { results := [.lit (.bool true)], args := [d1, d2] }
  | _ => none }
def eventChecksRow : OpenClaim := { program := "ytmeecblciegkkaa", sum := "1a4935186ae32e3d3ae86d0b21167512cbefbf2970ff56d049b6099850c90779", func := "wardship/wardshiplaw08.EventChecks", spec := "eventChecks", inPlace := ["internal/bytealg.IndexByteString", "internal/bytealg.IndexString"], unfollowed := true, recurses := true, named := ["internal/bytealg.MaxLen"], apart := false }
def EventChecksSaid : Prop := eventChecksRow.holds Try.pinned (OpenSpec.ofChange eventChecksSpec)

/-- ITS FALSE NEIGHBOUR: 'it returns false'. Refute it at one input. -/
def eventChecksWrong : ChangeSpec := { name := "eventChecks", fn := fun _ => fun
  | [d1, d2] => { results := [.lit (.bool false)], args := [d1, d2] }
  | _ => none }
def EventChecksWrongFalsely : Prop := eventChecksRow.holds Try.pinned (OpenSpec.ofChange eventChecksWrong)

/-- 'wardshiplaw08.EventWrites': WHATEVER THE INPUT: true; the input reads as it did. -/
def eventWritesSpec : ChangeSpec := { name := "eventWrites", fn := fun _ => fun
  | [d] => { results := [.lit (.bool true)], args := [d] }
  | _ => none }
def eventWritesRow : OpenClaim := { program := "ytmeecblciegkkaa", sum := "1a4935186ae32e3d3ae86d0b21167512cbefbf2970ff56d049b6099850c90779", func := "wardship/wardshiplaw08.EventWrites", spec := "eventWrites", inPlace := ["internal/bytealg.IndexByteString", "internal/bytealg.IndexString"], unfollowed := true, recurses := true, named := ["internal/bytealg.MaxLen"], apart := false }
def EventWritesSaid : Prop := eventWritesRow.holds Try.pinned (OpenSpec.ofChange eventWritesSpec)

/-- ITS FALSE NEIGHBOUR: 'it returns false'. Refute it at one input. -/
def eventWritesWrong : ChangeSpec := { name := "eventWrites", fn := fun _ => fun
  | [d] => { results := [.lit (.bool false)], args := [d] }
  | _ => none }
def EventWritesWrongFalsely : Prop := eventWritesRow.holds Try.pinned (OpenSpec.ofChange eventWritesWrong)

/-- 'wardshiplaw08.EventSame': WHATEVER THE INPUT: true; the input reads as it did. -/
def eventSameSpec : ChangeSpec := { name := "eventSame", fn := fun _ => fun
  | [d1, d2] => { results := [.lit (.bool true)], args := [d1, d2] }
  | _ => none }
def eventSameRow : OpenClaim := { program := "ytmeecblciegkkaa", sum := "1a4935186ae32e3d3ae86d0b21167512cbefbf2970ff56d049b6099850c90779", func := "wardship/wardshiplaw08.EventSame", spec := "eventSame", inPlace := ["internal/bytealg.IndexByteString", "internal/bytealg.IndexString"], unfollowed := true, recurses := true, named := ["internal/bytealg.MaxLen"], apart := false }
def EventSameSaid : Prop := eventSameRow.holds Try.pinned (OpenSpec.ofChange eventSameSpec)

/-- ITS FALSE NEIGHBOUR: 'it returns false'. Refute it at one input. -/
def eventSameWrong : ChangeSpec := { name := "eventSame", fn := fun _ => fun
  | [d1, d2] => { results := [.lit (.bool false)], args := [d1, d2] }
  | _ => none }
def EventSameWrongFalsely : Prop := eventSameRow.holds Try.pinned (OpenSpec.ofChange eventSameWrong)

/-- 'wardshiplaw08.EventTurned': WHATEVER THE INPUT: true; the input reads as it did. -/
def eventTurnedSpec : ChangeSpec := { name := "eventTurned", fn := fun _ => fun
  | [d1, d2, d3] => { results := [.lit (.bool true)], args := [d1, d2, d3] }
  | _ => none }
def eventTurnedRow : OpenClaim := { program := "ytmeecblciegkkaa", sum := "1a4935186ae32e3d3ae86d0b21167512cbefbf2970ff56d049b6099850c90779", func := "wardship/wardshiplaw08.EventTurned", spec := "eventTurned", inPlace := ["internal/bytealg.IndexByteString", "internal/bytealg.IndexString"], unfollowed := true, recurses := true, named := ["internal/bytealg.MaxLen"], apart := false }
def EventTurnedSaid : Prop := eventTurnedRow.holds Try.pinned (OpenSpec.ofChange eventTurnedSpec)

/-- ITS FALSE NEIGHBOUR: 'it returns false'. Refute it at one input. -/
def eventTurnedWrong : ChangeSpec := { name := "eventTurned", fn := fun _ => fun
  | [d1, d2, d3] => { results := [.lit (.bool false)], args := [d1, d2, d3] }
  | _ => none }
def EventTurnedWrongFalsely : Prop := eventTurnedRow.holds Try.pinned (OpenSpec.ofChange eventTurnedWrong)

/-- 'wardshiplaw22.BagTurns': WHATEVER THE INPUT: true; the input reads as it did. -/
def bagTurnsSpec : ChangeSpec := { name := "bagTurns", fn := fun _ => fun
  | [d] => { results := [.lit (.bool true)], args := [d] }
  | _ => none }
def bagTurnsRow : OpenClaim := { program := "ytmeecblciegkkaa", sum := "1a4935186ae32e3d3ae86d0b21167512cbefbf2970ff56d049b6099850c90779", func := "wardship/wardshiplaw22.BagTurns", spec := "bagTurns", inPlace := ["internal/bytealg.IndexByteString", "internal/bytealg.IndexString"], unfollowed := true, recurses := true, named := ["internal/bytealg.MaxLen"], apart := false }
def BagTurnsSaid : Prop := bagTurnsRow.holds Try.pinned (OpenSpec.ofChange bagTurnsSpec)

/-- ITS FALSE NEIGHBOUR: 'it returns false'. Refute it at one input. -/
def bagTurnsWrong : ChangeSpec := { name := "bagTurns", fn := fun _ => fun
  | [d] => { results := [.lit (.bool false)], args := [d] }
  | _ => none }
def BagTurnsWrongFalsely : Prop := bagTurnsRow.holds Try.pinned (OpenSpec.ofChange bagTurnsWrong)

/- THE SECOND FORM. 'bulk': how many values and letters a reading holds, each counted each time it is reached (what is shared counts as often as it is met; a slice's spare places count too). A statement '..UptoSaid' is the law's where the arguments, and the package variables that the reading takes, are together of bulk at most 1048576: NARROWER than '..Said'. Prove '..Said' where nothing that the law and all that it calls make is longer than what came in: it says more and counts as full. Else prove '..UptoSaid'. A law counts once. -/
mutual
def uptoBulk {H : Type} : DataW H → Nat
  | .lit (.string bytes) => bytes.length + 1
  | .lit _ => 1
  | .nil => 1
  | .ptr d => uptoBulk d + 1
  | .slice elems spare => uptoBulkAll elems + uptoBulkAll spare + 1
  | .agg parts => uptoBulkAll parts + 1
  | .iface _ d => uptoBulk d + 1
  | .map entries => uptoBulkEntries entries + 1
  | .held _ => 1
def uptoBulkAll {H : Type} : List (DataW H) → Nat
  | [] => 0
  | d :: r => uptoBulk d + uptoBulkAll r
def uptoBulkEntries {H : Type} : List (Lit × DataW H) → Nat
  | [] => 0
  | x :: r => uptoBulkEntry x + uptoBulkEntries r
def uptoBulkEntry {H : Type} : Lit × DataW H → Nat
  | (.string bytes, d) => bytes.length + uptoBulk d + 1
  | (_, d) => uptoBulk d + 1
 end
def uptoSmall : (H : Type) → List (DataW H) → Bool := fun _ ds => decide (uptoBulkAll ds ≤ 1048576)
def OpenSpec.upto (s : _root_.Go.ChangeSpec) : _root_.Go.OpenSpec := { _root_.Go.OpenSpec.ofChange s with cond := some uptoSmall }

/-- 'wardshiplaw07.SpanOrders', WHERE WHAT IT READS IS OF BULK AT MOST 1048576: true; the input reads as it did. -/
def spanOrdersUptoRow : OpenClaim := { program := "ytmeecblciegkkaa", sum := "1a4935186ae32e3d3ae86d0b21167512cbefbf2970ff56d049b6099850c90779", func := "wardship/wardshiplaw07.SpanOrders", spec := "spanOrders", apart := false, narrowed := true }
def SpanOrdersUptoSaid : Prop := spanOrdersUptoRow.holds Try.pinned (OpenSpec.upto spanOrdersSpec)

/-- 'wardshiplaw11.VersionBytes', WHERE WHAT IT READS IS OF BULK AT MOST 1048576: true; the input reads as it did. -/
def versionBytesUptoRow : OpenClaim := { program := "ytmeecblciegkkaa", sum := "1a4935186ae32e3d3ae86d0b21167512cbefbf2970ff56d049b6099850c90779", func := "wardship/wardshiplaw11.VersionBytes", spec := "versionBytes", inPlace := ["slices.overlaps[wardship/api.Version]"], apart := false, narrowed := true }
def VersionBytesUptoSaid : Prop := versionBytesUptoRow.holds Try.pinned (OpenSpec.upto versionBytesSpec)

/-- 'wardshiplaw11.VersionHeads', WHERE WHAT IT READS IS OF BULK AT MOST 1048576: true; the input reads as it did. -/
def versionHeadsUptoRow : OpenClaim := { program := "ytmeecblciegkkaa", sum := "1a4935186ae32e3d3ae86d0b21167512cbefbf2970ff56d049b6099850c90779", func := "wardship/wardshiplaw11.VersionHeads", spec := "versionHeads", inPlace := ["slices.overlaps[wardship/api.Version]"], apart := false, narrowed := true }
def VersionHeadsUptoSaid : Prop := versionHeadsUptoRow.holds Try.pinned (OpenSpec.upto versionHeadsSpec)

/-- 'wardshiplaw11.VersionLine', WHERE WHAT IT READS IS OF BULK AT MOST 1048576: true; the input reads as it did. -/
def versionLineUptoRow : OpenClaim := { program := "ytmeecblciegkkaa", sum := "1a4935186ae32e3d3ae86d0b21167512cbefbf2970ff56d049b6099850c90779", func := "wardship/wardshiplaw11.VersionLine", spec := "versionLine", inPlace := ["slices.overlaps[wardship/api.Version]"], apart := false, narrowed := true }
def VersionLineUptoSaid : Prop := versionLineUptoRow.holds Try.pinned (OpenSpec.upto versionLineSpec)

/-- 'wardshiplaw11.VersionAdds', WHERE WHAT IT READS IS OF BULK AT MOST 1048576: true; the input reads as it did. -/
def versionAddsUptoRow : OpenClaim := { program := "ytmeecblciegkkaa", sum := "1a4935186ae32e3d3ae86d0b21167512cbefbf2970ff56d049b6099850c90779", func := "wardship/wardshiplaw11.VersionAdds", spec := "versionAdds", inPlace := ["slices.overlaps[wardship/api.Version]"], apart := false, narrowed := true }
def VersionAddsUptoSaid : Prop := versionAddsUptoRow.holds Try.pinned (OpenSpec.upto versionAddsSpec)

/-- 'wardshiplaw11.VersionSweeps', WHERE WHAT IT READS IS OF BULK AT MOST 1048576: true; the input reads as it did. -/
def versionSweepsUptoRow : OpenClaim := { program := "ytmeecblciegkkaa", sum := "1a4935186ae32e3d3ae86d0b21167512cbefbf2970ff56d049b6099850c90779", func := "wardship/wardshiplaw11.VersionSweeps", spec := "versionSweeps", inPlace := ["slices.overlaps[wardship/api.Version]"], unfollowed := true, recurses := true, apart := false, narrowed := true }
def VersionSweepsUptoSaid : Prop := versionSweepsUptoRow.holds Try.pinned (OpenSpec.upto versionSweepsSpec)

/-- 'wardshiplaw08.EventChecks', WHERE WHAT IT READS IS OF BULK AT MOST 1048576: true; the input reads as it did. -/
def eventChecksUptoRow : OpenClaim := { program := "ytmeecblciegkkaa", sum := "1a4935186ae32e3d3ae86d0b21167512cbefbf2970ff56d049b6099850c90779", func := "wardship/wardshiplaw08.EventChecks", spec := "eventChecks", inPlace := ["internal/bytealg.IndexByteString", "internal/bytealg.IndexString"], unfollowed := true, recurses := true, named := ["internal/bytealg.MaxLen"], apart := false, narrowed := true }
def EventChecksUptoSaid : Prop := eventChecksUptoRow.holds Try.pinned (OpenSpec.upto eventChecksSpec)

/-- 'wardshiplaw08.EventWrites', WHERE WHAT IT READS IS OF BULK AT MOST 1048576: true; the input reads as it did. -/
def eventWritesUptoRow : OpenClaim := { program := "ytmeecblciegkkaa", sum := "1a4935186ae32e3d3ae86d0b21167512cbefbf2970ff56d049b6099850c90779", func := "wardship/wardshiplaw08.EventWrites", spec := "eventWrites", inPlace := ["internal/bytealg.IndexByteString", "internal/bytealg.IndexString"], unfollowed := true, recurses := true, named := ["internal/bytealg.MaxLen"], apart := false, narrowed := true }
def EventWritesUptoSaid : Prop := eventWritesUptoRow.holds Try.pinned (OpenSpec.upto eventWritesSpec)

/-- 'wardshiplaw08.EventSame', WHERE WHAT IT READS IS OF BULK AT MOST 1048576: true; the input reads as it did. -/
def eventSameUptoRow : OpenClaim := { program := "ytmeecblciegkkaa", sum := "1a4935186ae32e3d3ae86d0b21167512cbefbf2970ff56d049b6099850c90779", func := "wardship/wardshiplaw08.EventSame", spec := "eventSame", inPlace := ["internal/bytealg.IndexByteString", "internal/bytealg.IndexString"], unfollowed := true, recurses := true, named := ["internal/bytealg.MaxLen"], apart := false, narrowed := true }
def EventSameUptoSaid : Prop := eventSameUptoRow.holds Try.pinned (OpenSpec.upto eventSameSpec)

/-- 'wardshiplaw08.EventTurned', WHERE WHAT IT READS IS OF BULK AT MOST 1048576: true; the input reads as it did. -/
def eventTurnedUptoRow : OpenClaim := { program := "ytmeecblciegkkaa", sum := "1a4935186ae32e3d3ae86d0b21167512cbefbf2970ff56d049b6099850c90779", func := "wardship/wardshiplaw08.EventTurned", spec := "eventTurned", inPlace := ["internal/bytealg.IndexByteString", "internal/bytealg.IndexString"], unfollowed := true, recurses := true, named := ["internal/bytealg.MaxLen"], apart := false, narrowed := true }
def EventTurnedUptoSaid : Prop := eventTurnedUptoRow.holds Try.pinned (OpenSpec.upto eventTurnedSpec)

/-- 'wardshiplaw22.BagTurns', WHERE WHAT IT READS IS OF BULK AT MOST 1048576: true; the input reads as it did. -/
def bagTurnsUptoRow : OpenClaim := { program := "ytmeecblciegkkaa", sum := "1a4935186ae32e3d3ae86d0b21167512cbefbf2970ff56d049b6099850c90779", func := "wardship/wardshiplaw22.BagTurns", spec := "bagTurns", inPlace := ["internal/bytealg.IndexByteString", "internal/bytealg.IndexString"], unfollowed := true, recurses := true, named := ["internal/bytealg.MaxLen"], apart := false, narrowed := true }
def BagTurnsUptoSaid : Prop := bagTurnsUptoRow.holds Try.pinned (OpenSpec.upto bagTurnsSpec)

end Rows
end Go.Proofs.Ytmeecblciegkkaa
