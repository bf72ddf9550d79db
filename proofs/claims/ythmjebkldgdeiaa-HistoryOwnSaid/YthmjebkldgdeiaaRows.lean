/-
  No cell of these rows narrows 'for every input' (looked for: loops, veiled, ifaces, maps, wideKeys, modest, calm, conditions, laid).
  DERIVED. THE GIVEN ROWS OF THIS SEAT. 4 by the template 'for every input the law returns true; each argument reads behind the call as it read before'; 0 by the template 'total and deterministic' (their statements: YthmjebkldgdeiaaTotals.lean).
  GIVEN WITH THE SEED: the statements are not yours to turn. If you find one false, say at which input.
  Laid BY PROGRAM, IN A SANDBOX (cutbox-rows.mjs): the forced cells as the released guide's own fill.sh prints them over the translation 4a505f917844512c… (all of the seat's roots in one cut). By AI agents, Wed Nov 11 2026. No macro, syntax, notation, axiom, sorry.
-/
import Derived.Test.YthmjebkldgdeiaaChecked
import GoSem.Claim
import GoSem.ClaimJoined
import GoSem.ClaimMapViews
import Derived.JoinedTies
import Derived.KernelRfl
namespace Go.Proofs.Ythmjebkldgdeiaa
/- THE CELL 'sum', in the pinned program and in every row, IS THE sha256 OF THE DUMP (.gsa) THAT YthmjebkldgdeiaaProg.lean LOADS. Nothing in Lean hashes anything: it is a label: what it is worth is what the hold of that sum in a sandbox is worth. -/
noncomputable def Try.pinned : Pinned := { name := "ythmjebkldgdeiaa", sum := "4a505f917844512c5c23c14effc4815f74ffde8c572a95cabe5fbea80ae216f5", checked := Try.checked }
namespace Rows
def none {H : Type} : Left H := { results := [], args := [] }

/-- 'wardshiplaw16.HistoryOrder': WHATEVER THE INPUT: true; the input reads as it did. -/
def historyOrderSpec : ChangeSpec := { name := "historyOrder", fn := fun _ => fun
  | [d1, d2] => { results := [.lit (.bool true)], args := [d1, d2] }
  | _ => none }
def historyOrderRow : OpenClaim := { program := "ythmjebkldgdeiaa", sum := "4a505f917844512c5c23c14effc4815f74ffde8c572a95cabe5fbea80ae216f5", func := "wardship/wardshiplaw16.HistoryOrder", spec := "historyOrder", inPlace := ["internal/bytealg.IndexByteString", "internal/bytealg.IndexString", "slices.overlaps[wardship/api.Object]", "slices.overlaps[wardship/api.Entry]", "slices.overlaps[wardship/api.Version]"], unfollowed := true, recurses := true, named := ["internal/bytealg.MaxLen"], apart := false }
def HistoryOrderSaid : Prop := historyOrderRow.holds Try.pinned (OpenSpec.ofChange historyOrderSpec)

/-- ITS FALSE NEIGHBOUR: 'it returns false'. Refute it at one input. -/
def historyOrderWrong : ChangeSpec := { name := "historyOrder", fn := fun _ => fun
  | [d1, d2] => { results := [.lit (.bool false)], args := [d1, d2] }
  | _ => none }
def HistoryOrderWrongFalsely : Prop := historyOrderRow.holds Try.pinned (OpenSpec.ofChange historyOrderWrong)

/-- 'wardshiplaw16.HistoryMeets': WHATEVER THE INPUT: true; the input reads as it did. -/
def historyMeetsSpec : ChangeSpec := { name := "historyMeets", fn := fun _ => fun
  | [d1, d2, d3] => { results := [.lit (.bool true)], args := [d1, d2, d3] }
  | _ => none }
def historyMeetsRow : OpenClaim := { program := "ythmjebkldgdeiaa", sum := "4a505f917844512c5c23c14effc4815f74ffde8c572a95cabe5fbea80ae216f5", func := "wardship/wardshiplaw16.HistoryMeets", spec := "historyMeets", inPlace := ["internal/bytealg.IndexByteString", "internal/bytealg.IndexString", "slices.overlaps[wardship/api.Object]", "slices.overlaps[wardship/api.Entry]", "slices.overlaps[wardship/api.Version]"], unfollowed := true, recurses := true, named := ["internal/bytealg.MaxLen"], apart := false }
def HistoryMeetsSaid : Prop := historyMeetsRow.holds Try.pinned (OpenSpec.ofChange historyMeetsSpec)

/-- ITS FALSE NEIGHBOUR: 'it returns false'. Refute it at one input. -/
def historyMeetsWrong : ChangeSpec := { name := "historyMeets", fn := fun _ => fun
  | [d1, d2, d3] => { results := [.lit (.bool false)], args := [d1, d2, d3] }
  | _ => none }
def HistoryMeetsWrongFalsely : Prop := historyMeetsRow.holds Try.pinned (OpenSpec.ofChange historyMeetsWrong)

/-- 'wardshiplaw16.HistoryOwn': WHATEVER THE INPUT: true; the input reads as it did. -/
def historyOwnSpec : ChangeSpec := { name := "historyOwn", fn := fun _ => fun
  | [d1, d2] => { results := [.lit (.bool true)], args := [d1, d2] }
  | _ => none }
def historyOwnRow : OpenClaim := { program := "ythmjebkldgdeiaa", sum := "4a505f917844512c5c23c14effc4815f74ffde8c572a95cabe5fbea80ae216f5", func := "wardship/wardshiplaw16.HistoryOwn", spec := "historyOwn", inPlace := ["internal/bytealg.IndexByteString", "internal/bytealg.IndexString", "slices.overlaps[wardship/api.Object]", "slices.overlaps[wardship/api.Entry]", "slices.overlaps[wardship/api.Version]"], unfollowed := true, recurses := true, named := ["internal/bytealg.MaxLen"], apart := false }
def HistoryOwnSaid : Prop := historyOwnRow.holds Try.pinned (OpenSpec.ofChange historyOwnSpec)

/-- ITS FALSE NEIGHBOUR: 'it returns false'. Refute it at one input. -/
def historyOwnWrong : ChangeSpec := { name := "historyOwn", fn := fun _ => fun
  | [d1, d2] => { results := [.lit (.bool false)], args := [d1, d2] }
  | _ => none }
def HistoryOwnWrongFalsely : Prop := historyOwnRow.holds Try.pinned (OpenSpec.ofChange historyOwnWrong)

/-- 'wardshiplaw19.PullMeets': WHATEVER THE INPUT: true; the input reads as it did. -/
def pullMeetsSpec : ChangeSpec := { name := "pullMeets", fn := fun _ => fun
  | [d1, d2, d3] => { results := [.lit (.bool true)], args := [d1, d2, d3] }
  | _ => none }
def pullMeetsRow : OpenClaim := { program := "ythmjebkldgdeiaa", sum := "4a505f917844512c5c23c14effc4815f74ffde8c572a95cabe5fbea80ae216f5", func := "wardship/wardshiplaw19.PullMeets", spec := "pullMeets", inPlace := ["internal/bytealg.IndexByteString", "internal/bytealg.IndexString", "slices.overlaps[wardship/api.Object]", "slices.overlaps[wardship/api.Entry]", "slices.overlaps[wardship/api.Version]"], unfollowed := true, recurses := true, named := ["internal/bytealg.MaxLen"], apart := false }
def PullMeetsSaid : Prop := pullMeetsRow.holds Try.pinned (OpenSpec.ofChange pullMeetsSpec)

/-- ITS FALSE NEIGHBOUR: 'it returns false'. Refute it at one input. -/
def pullMeetsWrong : ChangeSpec := { name := "pullMeets", fn := fun _ => fun
  | [d1, d2, d3] => { results := [.lit (.bool false)], args := [d1, d2, d3] }
  | _ => none }
def PullMeetsWrongFalsely : Prop := pullMeetsRow.holds Try.pinned (OpenSpec.ofChange pullMeetsWrong)

/- THE SECOND FORM. 'bulk': how many values and letters a reading holds, each counted each time it is reached (what is shared counts as often as it is met; a slice's spare places count too). A statement '..UptoSaid' is the law's where the arguments, and the package variables that the reading takes, are together of bulk at most 1048576: NARROWER than '..Said'. Prove '..Said' where nothing that the law and all that it calls make is longer than what came in: it says more and counts as full. Else prove '..UptoSaid'. A law counts once. -/
mutual
def uptoBulk {H : Type} : DataW H → Nat
  | .lit (.string bytes) => bytes.length + 1
  | .lit _ => 1
  | .nil => 1
  | .ptr d => uptoBulk d + 1
  | .slice elems spare => uptoBulkAll elems + uptoBulkAll spare + 1
  | .agg parts => uptoBulkAll parts + 1
  | .iface _ d => uptoBulk d + 1
  | .map entries => uptoBulkEntries entries + 1
  | .held _ => 1
def uptoBulkAll {H : Type} : List (DataW H) → Nat
  | [] => 0
  | d :: r => uptoBulk d + uptoBulkAll r
def uptoBulkEntries {H : Type} : List (Lit × DataW H) → Nat
  | [] => 0
  | x :: r => uptoBulkEntry x + uptoBulkEntries r
def uptoBulkEntry {H : Type} : Lit × DataW H → Nat
  | (.string bytes, d) => bytes.length + uptoBulk d + 1
  | (_, d) => uptoBulk d + 1
 end
def uptoSmall : (H : Type) → List (DataW H) → Bool := fun _ ds => decide (uptoBulkAll ds ≤ 1048576)
def OpenSpec.upto (s : _root_.Go.ChangeSpec) : _root_.Go.OpenSpec := { _root_.Go.OpenSpec.ofChange s with cond := some uptoSmall }

/-- 'wardshiplaw16.HistoryOrder', WHERE WHAT IT READS IS OF BULK AT MOST 1048576: true; the input reads as it did. -/
def historyOrderUptoRow : OpenClaim := { program := "ythmjebkldgdeiaa", sum := "4a505f917844512c5c23c14effc4815f74ffde8c572a95cabe5fbea80ae216f5", func := "wardship/wardshiplaw16.HistoryOrder", spec := "historyOrder", inPlace := ["internal/bytealg.IndexByteString", "internal/bytealg.IndexString", "slices.overlaps[wardship/api.Object]", "slices.overlaps[wardship/api.Entry]", "slices.overlaps[wardship/api.Version]"], unfollowed := true, recurses := true, named := ["internal/bytealg.MaxLen"], apart := false, narrowed := true }
def HistoryOrderUptoSaid : Prop := historyOrderUptoRow.holds Try.pinned (OpenSpec.upto historyOrderSpec)

/-- 'wardshiplaw16.HistoryMeets', WHERE WHAT IT READS IS OF BULK AT MOST 1048576: true; the input reads as it did. -/
def historyMeetsUptoRow : OpenClaim := { program := "ythmjebkldgdeiaa", sum := "4a505f917844512c5c23c14effc4815f74ffde8c572a95cabe5fbea80ae216f5", func := "wardship/wardshiplaw16.HistoryMeets", spec := "historyMeets", inPlace := ["internal/bytealg.IndexByteString", "internal/bytealg.IndexString", "slices.overlaps[wardship/api.Object]", "slices.overlaps[wardship/api.Entry]", "slices.overlaps[wardship/api.Version]"], unfollowed := true, recurses := true, named := ["internal/bytealg.MaxLen"], apart := false, narrowed := true }
def HistoryMeetsUptoSaid : Prop := historyMeetsUptoRow.holds Try.pinned (OpenSpec.upto historyMeetsSpec)

/-- 'wardshiplaw16.HistoryOwn', WHERE WHAT IT READS IS OF BULK AT MOST 1048576: true; the input reads as it did. -/
def historyOwnUptoRow : OpenClaim := { program := "ythmjebkldgdeiaa", sum := "4a505f917844512c5c23c14effc4815f74ffde8c572a95cabe5fbea80ae216f5", func := "wardship/wardshiplaw16.HistoryOwn", spec := "historyOwn", inPlace := ["internal/bytealg.IndexByteString", "internal/bytealg.IndexString", "slices.overlaps[wardship/api.Object]", "slices.overlaps[wardship/api.Entry]", "slices.overlaps[wardship/api.Version]"], unfollowed := true, recurses := true, named := ["internal/bytealg.MaxLen"], apart := false, narrowed := true }
def HistoryOwnUptoSaid : Prop := historyOwnUptoRow.holds Try.pinned (OpenSpec.upto historyOwnSpec)

/-- 'wardshiplaw19.PullMeets', WHERE WHAT IT READS IS OF BULK AT MOST 1048576: true; the input reads as it did. -/
def pullMeetsUptoRow : OpenClaim := { program := "ythmjebkldgdeiaa", sum := "4a505f917844512c5c23c14effc4815f74ffde8c572a95cabe5fbea80ae216f5", func := "wardship/wardshiplaw19.PullMeets", spec := "pullMeets", inPlace := ["internal/bytealg.IndexByteString", "internal/bytealg.IndexString", "slices.overlaps[wardship/api.Object]", "slices.overlaps[wardship/api.Entry]", "slices.overlaps[wardship/api.Version]"], unfollowed := true, recurses := true, named := ["internal/bytealg.MaxLen"], apart := false, narrowed := true }
def PullMeetsUptoSaid : Prop := pullMeetsUptoRow.holds Try.pinned (OpenSpec.upto pullMeetsSpec)

end Rows
end Go.Proofs.Ythmjebkldgdeiaa
