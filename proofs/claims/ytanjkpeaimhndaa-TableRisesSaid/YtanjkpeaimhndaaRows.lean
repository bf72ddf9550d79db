/-
  No cell of these rows narrows 'for every input' (looked for: loops, veiled, ifaces, maps, wideKeys, modest, calm, conditions, laid).
  DERIVED. THE GIVEN ROWS OF THIS SEAT. 12 by the template 'for every input the law returns true; each argument reads behind the call as it read before'; 0 by the template 'total and deterministic' (their statements: YtanjkpeaimhndaaTotals.lean).
  GIVEN WITH THE SEED: the statements are not yours to turn. If you find one false, say at which input.
  Laid BY PROGRAM, IN A SANDBOX (cutbox-rows.mjs): the forced cells as the released guide's own fill.sh prints them over the translation 167f56be62a61adc… (all of the seat's roots in one cut). By AI agents, Wed Nov 11 2026. No macro, syntax, notation, axiom, sorry.
-/
import Derived.Test.YtanjkpeaimhndaaChecked
import GoSem.Claim
import GoSem.ClaimJoined
import GoSem.ClaimMapViews
import Derived.JoinedTies
import Derived.KernelRfl
namespace Go.Proofs.Ytanjkpeaimhndaa
/- THE CELL 'sum', in the pinned program and in every row, IS THE sha256 OF THE DUMP (.gsa) THAT YtanjkpeaimhndaaProg.lean LOADS. Nothing in Lean hashes anything: it is a label: what it is worth is what the hold of that sum in a sandbox is worth. -/
noncomputable def Try.pinned : Pinned := { name := "ytanjkpeaimhndaa", sum := "167f56be62a61adc0c7cf2d23ca24601ea4b061c8e246566b41158b681629918", checked := Try.checked }
namespace Rows
def none {H : Type} : Left H := { results := [], args := [] }

/-- 'wardshiplaw02.SumSums': WHATEVER THE INPUT: true; the input reads as it did. -/
def sumSumsSpec : ChangeSpec := { name := "sumSums", fn := fun _ => fun
  | [d] => { results := [.lit (.bool true)], args := [d] }
  | _ => none }
def sumSumsRow : OpenClaim := { program := "ytanjkpeaimhndaa", sum := "167f56be62a61adc0c7cf2d23ca24601ea4b061c8e246566b41158b681629918", func := "wardship/wardshiplaw02.SumSums", spec := "sumSums", apart := false }
def SumSumsSaid : Prop := sumSumsRow.holds Try.pinned (OpenSpec.ofChange sumSumsSpec)

/-- ITS FALSE NEIGHBOUR: 'it returns false'. Refute it at one input. -/
def sumSumsWrong : ChangeSpec := { name := "sumSums", fn := fun _ => fun
  | [d] => { results := [.lit (.bool false)], args := [d] }
  | _ => none }
def SumSumsWrongFalsely : Prop := sumSumsRow.holds Try.pinned (OpenSpec.ofChange sumSumsWrong)

/-- 'wardshiplaw02.SumRolls': WHATEVER THE INPUT: true; the input reads as it did. -/
def sumRollsSpec : ChangeSpec := { name := "sumRolls", fn := fun _ => fun
  | [d1, d2, d3] => { results := [.lit (.bool true)], args := [d1, d2, d3] }
  | _ => none }
def sumRollsRow : OpenClaim := { program := "ytanjkpeaimhndaa", sum := "167f56be62a61adc0c7cf2d23ca24601ea4b061c8e246566b41158b681629918", func := "wardship/wardshiplaw02.SumRolls", spec := "sumRolls", apart := false }
def SumRollsSaid : Prop := sumRollsRow.holds Try.pinned (OpenSpec.ofChange sumRollsSpec)

/-- ITS FALSE NEIGHBOUR: 'it returns false'. Refute it at one input. -/
def sumRollsWrong : ChangeSpec := { name := "sumRolls", fn := fun _ => fun
  | [d1, d2, d3] => { results := [.lit (.bool false)], args := [d1, d2, d3] }
  | _ => none }
def SumRollsWrongFalsely : Prop := sumRollsRow.holds Try.pinned (OpenSpec.ofChange sumRollsWrong)

/-- 'wardshiplaw02.SumWindow': WHATEVER THE INPUT: true; the input reads as it did. -/
def sumWindowSpec : ChangeSpec := { name := "sumWindow", fn := fun _ => fun
  | [d1, d2] => { results := [.lit (.bool true)], args := [d1, d2] }
  | _ => none }
def sumWindowRow : OpenClaim := { program := "ytanjkpeaimhndaa", sum := "167f56be62a61adc0c7cf2d23ca24601ea4b061c8e246566b41158b681629918", func := "wardship/wardshiplaw02.SumWindow", spec := "sumWindow", apart := false }
def SumWindowSaid : Prop := sumWindowRow.holds Try.pinned (OpenSpec.ofChange sumWindowSpec)

/-- ITS FALSE NEIGHBOUR: 'it returns false'. Refute it at one input. -/
def sumWindowWrong : ChangeSpec := { name := "sumWindow", fn := fun _ => fun
  | [d1, d2] => { results := [.lit (.bool false)], args := [d1, d2] }
  | _ => none }
def SumWindowWrongFalsely : Prop := sumWindowRow.holds Try.pinned (OpenSpec.ofChange sumWindowWrong)

/-- 'wardshiplaw02.SumOpens': WHATEVER THE INPUT: true; the input reads as it did. -/
def sumOpensSpec : ChangeSpec := { name := "sumOpens", fn := fun _ => fun
  | [d1, d2] => { results := [.lit (.bool true)], args := [d1, d2] }
  | _ => none }
def sumOpensRow : OpenClaim := { program := "ytanjkpeaimhndaa", sum := "167f56be62a61adc0c7cf2d23ca24601ea4b061c8e246566b41158b681629918", func := "wardship/wardshiplaw02.SumOpens", spec := "sumOpens", apart := false }
def SumOpensSaid : Prop := sumOpensRow.holds Try.pinned (OpenSpec.ofChange sumOpensSpec)

/-- ITS FALSE NEIGHBOUR: 'it returns false'. Refute it at one input. -/
def sumOpensWrong : ChangeSpec := { name := "sumOpens", fn := fun _ => fun
  | [d1, d2] => { results := [.lit (.bool false)], args := [d1, d2] }
  | _ => none }
def SumOpensWrongFalsely : Prop := sumOpensRow.holds Try.pinned (OpenSpec.ofChange sumOpensWrong)

/-- 'wardshiplaw02.SumByte': WHATEVER THE INPUT: true; the input reads as it did. -/
def sumByteSpec : ChangeSpec := { name := "sumByte", fn := fun _ => fun
  | [d1, d2, d3] => { results := [.lit (.bool true)], args := [d1, d2, d3] }
  | _ => none }
def sumByteRow : OpenClaim := { program := "ytanjkpeaimhndaa", sum := "167f56be62a61adc0c7cf2d23ca24601ea4b061c8e246566b41158b681629918", func := "wardship/wardshiplaw02.SumByte", spec := "sumByte", apart := false }
def SumByteSaid : Prop := sumByteRow.holds Try.pinned (OpenSpec.ofChange sumByteSpec)

/-- ITS FALSE NEIGHBOUR: 'it returns false'. Refute it at one input. -/
def sumByteWrong : ChangeSpec := { name := "sumByte", fn := fun _ => fun
  | [d1, d2, d3] => { results := [.lit (.bool false)], args := [d1, d2, d3] }
  | _ => none }
def SumByteWrongFalsely : Prop := sumByteRow.holds Try.pinned (OpenSpec.ofChange sumByteWrong)

/-- 'wardshiplaw02.SumSwap': WHATEVER THE INPUT: true; the input reads as it did. -/
def sumSwapSpec : ChangeSpec := { name := "sumSwap", fn := fun _ => fun
  | [d1, d2] => { results := [.lit (.bool true)], args := [d1, d2] }
  | _ => none }
def sumSwapRow : OpenClaim := { program := "ytanjkpeaimhndaa", sum := "167f56be62a61adc0c7cf2d23ca24601ea4b061c8e246566b41158b681629918", func := "wardship/wardshiplaw02.SumSwap", spec := "sumSwap", apart := false }
def SumSwapSaid : Prop := sumSwapRow.holds Try.pinned (OpenSpec.ofChange sumSwapSpec)

/-- ITS FALSE NEIGHBOUR: 'it returns false'. Refute it at one input. -/
def sumSwapWrong : ChangeSpec := { name := "sumSwap", fn := fun _ => fun
  | [d1, d2] => { results := [.lit (.bool false)], args := [d1, d2] }
  | _ => none }
def SumSwapWrongFalsely : Prop := sumSwapRow.holds Try.pinned (OpenSpec.ofChange sumSwapWrong)

/-- 'wardshiplaw02.SumTwice': WHATEVER THE INPUT: true; the input reads as it did. -/
def sumTwiceSpec : ChangeSpec := { name := "sumTwice", fn := fun _ => fun
  | [d] => { results := [.lit (.bool true)], args := [d] }
  | _ => none }
def sumTwiceRow : OpenClaim := { program := "ytanjkpeaimhndaa", sum := "167f56be62a61adc0c7cf2d23ca24601ea4b061c8e246566b41158b681629918", func := "wardship/wardshiplaw02.SumTwice", spec := "sumTwice", apart := false }
def SumTwiceSaid : Prop := sumTwiceRow.holds Try.pinned (OpenSpec.ofChange sumTwiceSpec)

/-- ITS FALSE NEIGHBOUR: 'it returns false'. Refute it at one input. -/
def sumTwiceWrong : ChangeSpec := { name := "sumTwice", fn := fun _ => fun
  | [d] => { results := [.lit (.bool false)], args := [d] }
  | _ => none }
def SumTwiceWrongFalsely : Prop := sumTwiceRow.holds Try.pinned (OpenSpec.ofChange sumTwiceWrong)

/-- 'wardshiplaw17.TableRises': WHATEVER THE INPUT: true; the input reads as it did. -/
def tableRisesSpec : ChangeSpec := { name := "tableRises", fn := fun _ => fun
  | [d1, d2, d3] => { results := [.lit (.bool true)], args := [d1, d2, d3] }
  | _ => none }
def tableRisesRow : OpenClaim := { program := "ytanjkpeaimhndaa", sum := "167f56be62a61adc0c7cf2d23ca24601ea4b061c8e246566b41158b681629918", func := "wardship/wardshiplaw17.TableRises", spec := "tableRises", apart := false }
def TableRisesSaid : Prop := tableRisesRow.holds Try.pinned (OpenSpec.ofChange tableRisesSpec)

/-- ITS FALSE NEIGHBOUR: 'it returns false'. Refute it at one input. -/
def tableRisesWrong : ChangeSpec := { name := "tableRises", fn := fun _ => fun
  | [d1, d2, d3] => { results := [.lit (.bool false)], args := [d1, d2, d3] }
  | _ => none }
def TableRisesWrongFalsely : Prop := tableRisesRow.holds Try.pinned (OpenSpec.ofChange tableRisesWrong)

/-- 'wardshiplaw17.TableLearns': WHATEVER THE INPUT: true; the input reads as it did. -/
def tableLearnsSpec : ChangeSpec := { name := "tableLearns", fn := fun _ => fun
  | [d1, d2, d3] => { results := [.lit (.bool true)], args := [d1, d2, d3] }
  | _ => none }
def tableLearnsRow : OpenClaim := { program := "ytanjkpeaimhndaa", sum := "167f56be62a61adc0c7cf2d23ca24601ea4b061c8e246566b41158b681629918", func := "wardship/wardshiplaw17.TableLearns", spec := "tableLearns", apart := false }
def TableLearnsSaid : Prop := tableLearnsRow.holds Try.pinned (OpenSpec.ofChange tableLearnsSpec)

/-- ITS FALSE NEIGHBOUR: 'it returns false'. Refute it at one input. -/
def tableLearnsWrong : ChangeSpec := { name := "tableLearns", fn := fun _ => fun
  | [d1, d2, d3] => { results := [.lit (.bool false)], args := [d1, d2, d3] }
  | _ => none }
def TableLearnsWrongFalsely : Prop := tableLearnsRow.holds Try.pinned (OpenSpec.ofChange tableLearnsWrong)

/-- 'wardshiplaw17.TableMeets': WHATEVER THE INPUT: true; the input reads as it did. -/
def tableMeetsSpec : ChangeSpec := { name := "tableMeets", fn := fun _ => fun
  | [d1, d2, d3] => { results := [.lit (.bool true)], args := [d1, d2, d3] }
  | _ => none }
def tableMeetsRow : OpenClaim := { program := "ytanjkpeaimhndaa", sum := "167f56be62a61adc0c7cf2d23ca24601ea4b061c8e246566b41158b681629918", func := "wardship/wardshiplaw17.TableMeets", spec := "tableMeets", apart := false }
def TableMeetsSaid : Prop := tableMeetsRow.holds Try.pinned (OpenSpec.ofChange tableMeetsSpec)

/-- ITS FALSE NEIGHBOUR: 'it returns false'. Refute it at one input. -/
def tableMeetsWrong : ChangeSpec := { name := "tableMeets", fn := fun _ => fun
  | [d1, d2, d3] => { results := [.lit (.bool false)], args := [d1, d2, d3] }
  | _ => none }
def TableMeetsWrongFalsely : Prop := tableMeetsRow.holds Try.pinned (OpenSpec.ofChange tableMeetsWrong)

/-- 'wardshiplaw01.CodecPacks': WHATEVER THE INPUT: true; the input reads as it did. -/
def codecPacksSpec : ChangeSpec := { name := "codecPacks", fn := fun _ => fun
  | [d1, d2] => { results := [.lit (.bool true)], args := [d1, d2] }
  | _ => none }
def codecPacksRow : OpenClaim := { program := "ytanjkpeaimhndaa", sum := "167f56be62a61adc0c7cf2d23ca24601ea4b061c8e246566b41158b681629918", func := "wardship/wardshiplaw01.CodecPacks", spec := "codecPacks", unfollowed := true, recurses := true, apart := false }
def CodecPacksSaid : Prop := codecPacksRow.holds Try.pinned (OpenSpec.ofChange codecPacksSpec)

/-- ITS FALSE NEIGHBOUR: 'it returns false'. Refute it at one input. -/
def codecPacksWrong : ChangeSpec := { name := "codecPacks", fn := fun _ => fun
  | [d1, d2] => { results := [.lit (.bool false)], args := [d1, d2] }
  | _ => none }
def CodecPacksWrongFalsely : Prop := codecPacksRow.holds Try.pinned (OpenSpec.ofChange codecPacksWrong)

/-- 'wardshiplaw01.CodecApart': WHATEVER THE INPUT: true; the input reads as it did. -/
def codecApartSpec : ChangeSpec := { name := "codecApart", fn := fun _ => fun
  | [d1, d2] => { results := [.lit (.bool true)], args := [d1, d2] }
  | _ => none }
def codecApartRow : OpenClaim := { program := "ytanjkpeaimhndaa", sum := "167f56be62a61adc0c7cf2d23ca24601ea4b061c8e246566b41158b681629918", func := "wardship/wardshiplaw01.CodecApart", spec := "codecApart", unfollowed := true, recurses := true, apart := false }
def CodecApartSaid : Prop := codecApartRow.holds Try.pinned (OpenSpec.ofChange codecApartSpec)

/-- ITS FALSE NEIGHBOUR: 'it returns false'. Refute it at one input. -/
def codecApartWrong : ChangeSpec := { name := "codecApart", fn := fun _ => fun
  | [d1, d2] => { results := [.lit (.bool false)], args := [d1, d2] }
  | _ => none }
def CodecApartWrongFalsely : Prop := codecApartRow.holds Try.pinned (OpenSpec.ofChange codecApartWrong)

/- THE SECOND FORM. 'bulk': how many values and letters a reading holds, each counted each time it is reached (what is shared counts as often as it is met; a slice's spare places count too). A statement '..UptoSaid' is the law's where the arguments, and the package variables that the reading takes, are together of bulk at most 1048576: NARROWER than '..Said'. Prove '..Said' where nothing that the law and all that it calls make is longer than what came in: it says more and counts as full. Else prove '..UptoSaid'. A law counts once. -/
mutual
def uptoBulk {H : Type} : DataW H → Nat
  | .lit (.string bytes) => bytes.length + 1
  | .lit _ => 1
  | .nil => 1
  | .ptr d => uptoBulk d + 1
  | .slice elems spare => uptoBulkAll elems + uptoBulkAll spare + 1
  | .agg parts => uptoBulkAll parts + 1
  | .iface _ d => uptoBulk d + 1
  | .map entries => uptoBulkEntries entries + 1
  | .held _ => 1
def uptoBulkAll {H : Type} : List (DataW H) → Nat
  | [] => 0
  | d :: r => uptoBulk d + uptoBulkAll r
def uptoBulkEntries {H : Type} : List (Lit × DataW H) → Nat
  | [] => 0
  | x :: r => uptoBulkEntry x + uptoBulkEntries r
def uptoBulkEntry {H : Type} : Lit × DataW H → Nat
  | (.string bytes, d) => bytes.length + uptoBulk d + 1
  | (_, d) => uptoBulk d + 1
 end
def uptoSmall : (H : Type) → List (DataW H) → Bool := fun _ ds => decide (uptoBulkAll ds ≤ 1048576)
def OpenSpec.upto (s : _root_.Go.ChangeSpec) : _root_.Go.OpenSpec := { _root_.Go.OpenSpec.ofChange s with cond := some uptoSmall }

/-- 'wardshiplaw02.SumSums', WHERE WHAT IT READS IS OF BULK AT MOST 1048576: true; the input reads as it did. -/
def sumSumsUptoRow : OpenClaim := { program := "ytanjkpeaimhndaa", sum := "167f56be62a61adc0c7cf2d23ca24601ea4b061c8e246566b41158b681629918", func := "wardship/wardshiplaw02.SumSums", spec := "sumSums", apart := false, narrowed := true }
def SumSumsUptoSaid : Prop := sumSumsUptoRow.holds Try.pinned (OpenSpec.upto sumSumsSpec)

/-- 'wardshiplaw02.SumRolls', WHERE WHAT IT READS IS OF BULK AT MOST 1048576: true; the input reads as it did. -/
def sumRollsUptoRow : OpenClaim := { program := "ytanjkpeaimhndaa", sum := "167f56be62a61adc0c7cf2d23ca24601ea4b061c8e246566b41158b681629918", func := "wardship/wardshiplaw02.SumRolls", spec := "sumRolls", apart := false, narrowed := true }
def SumRollsUptoSaid : Prop := sumRollsUptoRow.holds Try.pinned (OpenSpec.upto sumRollsSpec)

/-- 'wardshiplaw02.SumWindow', WHERE WHAT IT READS IS OF BULK AT MOST 1048576: true; the input reads as it did. -/
def sumWindowUptoRow : OpenClaim := { program := "ytanjkpeaimhndaa", sum := "167f56be62a61adc0c7cf2d23ca24601ea4b061c8e246566b41158b681629918", func := "wardship/wardshiplaw02.SumWindow", spec := "sumWindow", apart := false, narrowed := true }
def SumWindowUptoSaid : Prop := sumWindowUptoRow.holds Try.pinned (OpenSpec.upto sumWindowSpec)

/-- 'wardshiplaw02.SumOpens', WHERE WHAT IT READS IS OF BULK AT MOST 1048576: true; the input reads as it did. -/
def sumOpensUptoRow : OpenClaim := { program := "ytanjkpeaimhndaa", sum := "167f56be62a61adc0c7cf2d23ca24601ea4b061c8e246566b41158b681629918", func := "wardship/wardshiplaw02.SumOpens", spec := "sumOpens", apart := false, narrowed := true }
def SumOpensUptoSaid : Prop := sumOpensUptoRow.holds Try.pinned (OpenSpec.upto sumOpensSpec)

/-- 'wardshiplaw02.SumByte', WHERE WHAT IT READS IS OF BULK AT MOST 1048576: true; the input reads as it did. -/
def sumByteUptoRow : OpenClaim := { program := "ytanjkpeaimhndaa", sum := "167f56be62a61adc0c7cf2d23ca24601ea4b061c8e246566b41158b681629918", func := "wardship/wardshiplaw02.SumByte", spec := "sumByte", apart := false, narrowed := true }
def SumByteUptoSaid : Prop := sumByteUptoRow.holds Try.pinned (OpenSpec.upto sumByteSpec)

/-- 'wardshiplaw02.SumSwap', WHERE WHAT IT READS IS OF BULK AT MOST 1048576: true; the input reads as it did. -/
def sumSwapUptoRow : OpenClaim := { program := "ytanjkpeaimhndaa", sum := "167f56be62a61adc0c7cf2d23ca24601ea4b061c8e246566b41158b681629918", func := "wardship/wardshiplaw02.SumSwap", spec := "sumSwap", apart := false, narrowed := true }
def SumSwapUptoSaid : Prop := sumSwapUptoRow.holds Try.pinned (OpenSpec.upto sumSwapSpec)

/-- 'wardshiplaw02.SumTwice', WHERE WHAT IT READS IS OF BULK AT MOST 1048576: true; the input reads as it did. -/
def sumTwiceUptoRow : OpenClaim := { program := "ytanjkpeaimhndaa", sum := "167f56be62a61adc0c7cf2d23ca24601ea4b061c8e246566b41158b681629918", func := "wardship/wardshiplaw02.SumTwice", spec := "sumTwice", apart := false, narrowed := true }
def SumTwiceUptoSaid : Prop := sumTwiceUptoRow.holds Try.pinned (OpenSpec.upto sumTwiceSpec)

/-- 'wardshiplaw17.TableRises', WHERE WHAT IT READS IS OF BULK AT MOST 1048576: true; the input reads as it did. -/
def tableRisesUptoRow : OpenClaim := { program := "ytanjkpeaimhndaa", sum := "167f56be62a61adc0c7cf2d23ca24601ea4b061c8e246566b41158b681629918", func := "wardship/wardshiplaw17.TableRises", spec := "tableRises", apart := false, narrowed := true }
def TableRisesUptoSaid : Prop := tableRisesUptoRow.holds Try.pinned (OpenSpec.upto tableRisesSpec)

/-- 'wardshiplaw17.TableLearns', WHERE WHAT IT READS IS OF BULK AT MOST 1048576: true; the input reads as it did. -/
def tableLearnsUptoRow : OpenClaim := { program := "ytanjkpeaimhndaa", sum := "167f56be62a61adc0c7cf2d23ca24601ea4b061c8e246566b41158b681629918", func := "wardship/wardshiplaw17.TableLearns", spec := "tableLearns", apart := false, narrowed := true }
def TableLearnsUptoSaid : Prop := tableLearnsUptoRow.holds Try.pinned (OpenSpec.upto tableLearnsSpec)

/-- 'wardshiplaw17.TableMeets', WHERE WHAT IT READS IS OF BULK AT MOST 1048576: true; the input reads as it did. -/
def tableMeetsUptoRow : OpenClaim := { program := "ytanjkpeaimhndaa", sum := "167f56be62a61adc0c7cf2d23ca24601ea4b061c8e246566b41158b681629918", func := "wardship/wardshiplaw17.TableMeets", spec := "tableMeets", apart := false, narrowed := true }
def TableMeetsUptoSaid : Prop := tableMeetsUptoRow.holds Try.pinned (OpenSpec.upto tableMeetsSpec)

/-- 'wardshiplaw01.CodecPacks', WHERE WHAT IT READS IS OF BULK AT MOST 1048576: true; the input reads as it did. -/
def codecPacksUptoRow : OpenClaim := { program := "ytanjkpeaimhndaa", sum := "167f56be62a61adc0c7cf2d23ca24601ea4b061c8e246566b41158b681629918", func := "wardship/wardshiplaw01.CodecPacks", spec := "codecPacks", unfollowed := true, recurses := true, apart := false, narrowed := true }
def CodecPacksUptoSaid : Prop := codecPacksUptoRow.holds Try.pinned (OpenSpec.upto codecPacksSpec)

/-- 'wardshiplaw01.CodecApart', WHERE WHAT IT READS IS OF BULK AT MOST 1048576: true; the input reads as it did. -/
def codecApartUptoRow : OpenClaim := { program := "ytanjkpeaimhndaa", sum := "167f56be62a61adc0c7cf2d23ca24601ea4b061c8e246566b41158b681629918", func := "wardship/wardshiplaw01.CodecApart", spec := "codecApart", unfollowed := true, recurses := true, apart := false, narrowed := true }
def CodecApartUptoSaid : Prop := codecApartUptoRow.holds Try.pinned (OpenSpec.upto codecApartSpec)

end Rows
end Go.Proofs.Ytanjkpeaimhndaa
