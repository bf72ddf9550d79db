/-
  No cell of these rows narrows 'for every input' (looked for: loops, veiled, ifaces, maps, wideKeys, modest, calm, conditions, laid).
  DERIVED. THE GIVEN ROWS OF THIS SEAT. 11 by the template 'for every input the law returns true; each argument reads behind the call as it read before'; 0 by the template 'total and deterministic' (their statements: YtjlblbbhmmconaaTotals.lean).
  GIVEN WITH THE SEED: the statements are not yours to turn. If you find one false, say at which input.
  Laid BY PROGRAM, IN A SANDBOX (cutbox-rows.mjs): the forced cells as the released guide's own fill.sh prints them over the translation 99e0b68e2cb3c644… (all of the seat's roots in one cut). By AI agents, Wed Nov 11 2026. No macro, syntax, notation, axiom, sorry.
-/
import Derived.Test.YtjlblbbhmmconaaChecked
import GoSem.Claim
import GoSem.ClaimJoined
import GoSem.ClaimMapViews
import Derived.JoinedTies
import Derived.KernelRfl
namespace Go.Proofs.Ytjlblbbhmmconaa
/- THE CELL 'sum', in the pinned program and in every row, IS THE sha256 OF THE DUMP (.gsa) THAT YtjlblbbhmmconaaProg.lean LOADS. Nothing in Lean hashes anything: it is a label: what it is worth is what the hold of that sum in a sandbox is worth. -/
noncomputable def Try.pinned : Pinned := { name := "ytjlblbbhmmconaa", sum := "99e0b68e2cb3c6448524173eb8ceb266eb8da154ac7250826aa4f197a0e33712", checked := Try.checked }
namespace Rows
def none {H : Type} : Left H := { results := [], args := [] }

/-- 'wardshiplaw01.CodecOwn': WHATEVER THE INPUT: true; the input reads as it did. -/
def codecOwnSpec : ChangeSpec := { name := "codecOwn", fn := fun _ => fun
  | [d] => { results := [.lit (.bool true)], args := [d] }
  | _ => none }
def codecOwnRow : OpenClaim := { program := "ytjlblbbhmmconaa", sum := "99e0b68e2cb3c6448524173eb8ceb266eb8da154ac7250826aa4f197a0e33712", func := "wardship/wardshiplaw01.CodecOwn", spec := "codecOwn", unfollowed := true, recurses := true, apart := false }
def CodecOwnSaid : Prop := codecOwnRow.holds Try.pinned (OpenSpec.ofChange codecOwnSpec)

/-- ITS FALSE NEIGHBOUR: 'it returns false'. Refute it at one input. -/
def codecOwnWrong : ChangeSpec := { name := "codecOwn", fn := fun _ => fun
  | [d] => { results := [.lit (.bool false)], args := [d] }
  | _ => none }
def CodecOwnWrongFalsely : Prop := codecOwnRow.holds Try.pinned (OpenSpec.ofChange codecOwnWrong)

/-- 'wardshiplaw01.CodecCuts': WHATEVER THE INPUT: true; the input reads as it did. -/
def codecCutsSpec : ChangeSpec := { name := "codecCuts", fn := fun _ => fun
  | [d1, d2] => { results := [.lit (.bool true)], args := [d1, d2] }
  | _ => none }
def codecCutsRow : OpenClaim := { program := "ytjlblbbhmmconaa", sum := "99e0b68e2cb3c6448524173eb8ceb266eb8da154ac7250826aa4f197a0e33712", func := "wardship/wardshiplaw01.CodecCuts", spec := "codecCuts", unfollowed := true, recurses := true, apart := false }
def CodecCutsSaid : Prop := codecCutsRow.holds Try.pinned (OpenSpec.ofChange codecCutsSpec)

/-- ITS FALSE NEIGHBOUR: 'it returns false'. Refute it at one input. -/
def codecCutsWrong : ChangeSpec := { name := "codecCuts", fn := fun _ => fun
  | [d1, d2] => { results := [.lit (.bool false)], args := [d1, d2] }
  | _ => none }
def CodecCutsWrongFalsely : Prop := codecCutsRow.holds Try.pinned (OpenSpec.ofChange codecCutsWrong)

/-- 'wardshiplaw17.TableElse': WHATEVER THE INPUT: true; the input reads as it did. -/
def tableElseSpec : ChangeSpec := { name := "tableElse", fn := fun _ => fun
  | [d1, d2, d3] => { results := [.lit (.bool true)], args := [d1, d2, d3] }
  | _ => none }
def tableElseRow : OpenClaim := { program := "ytjlblbbhmmconaa", sum := "99e0b68e2cb3c6448524173eb8ceb266eb8da154ac7250826aa4f197a0e33712", func := "wardship/wardshiplaw17.TableElse", spec := "tableElse", apart := false }
def TableElseSaid : Prop := tableElseRow.holds Try.pinned (OpenSpec.ofChange tableElseSpec)

/-- ITS FALSE NEIGHBOUR: 'it returns false'. Refute it at one input. -/
def tableElseWrong : ChangeSpec := { name := "tableElse", fn := fun _ => fun
  | [d1, d2, d3] => { results := [.lit (.bool false)], args := [d1, d2, d3] }
  | _ => none }
def TableElseWrongFalsely : Prop := tableElseRow.holds Try.pinned (OpenSpec.ofChange tableElseWrong)

/-- 'wardshiptop.TopVectors': WHATEVER THE INPUT: true; the input reads as it did. -/
def topVectorsSpec : ChangeSpec := { name := "topVectors", fn := fun _ => fun
  | [d1, d2, d3] => { results := [.lit (.bool true)], args := [d1, d2, d3] }
  | _ => none }
def topVectorsRow : OpenClaim := { program := "ytjlblbbhmmconaa", sum := "99e0b68e2cb3c6448524173eb8ceb266eb8da154ac7250826aa4f197a0e33712", func := "wardship/wardshiptop.TopVectors", spec := "topVectors", apart := false }
def TopVectorsSaid : Prop := topVectorsRow.holds Try.pinned (OpenSpec.ofChange topVectorsSpec)

/-- ITS FALSE NEIGHBOUR: 'it returns false'. Refute it at one input. -/
def topVectorsWrong : ChangeSpec := { name := "topVectors", fn := fun _ => fun
  | [d1, d2, d3] => { results := [.lit (.bool false)], args := [d1, d2, d3] }
  | _ => none }
def TopVectorsWrongFalsely : Prop := topVectorsRow.holds Try.pinned (OpenSpec.ofChange topVectorsWrong)

/-- 'wardshiplaw17.TableSure': WHATEVER THE INPUT: true; the input reads as it did. -/
def tableSureSpec : ChangeSpec := { name := "tableSure", fn := fun _ => fun
  | [d1, d2, d3] => { results := [.lit (.bool true)], args := [d1, d2, d3] }
  | _ => none }
def tableSureRow : OpenClaim := { program := "ytjlblbbhmmconaa", sum := "99e0b68e2cb3c6448524173eb8ceb266eb8da154ac7250826aa4f197a0e33712", func := "wardship/wardshiplaw17.TableSure", spec := "tableSure", apart := false }
def TableSureSaid : Prop := tableSureRow.holds Try.pinned (OpenSpec.ofChange tableSureSpec)

/-- ITS FALSE NEIGHBOUR: 'it returns false'. Refute it at one input. -/
def tableSureWrong : ChangeSpec := { name := "tableSure", fn := fun _ => fun
  | [d1, d2, d3] => { results := [.lit (.bool false)], args := [d1, d2, d3] }
  | _ => none }
def TableSureWrongFalsely : Prop := tableSureRow.holds Try.pinned (OpenSpec.ofChange tableSureWrong)

/-- 'wardshiplaw01.CodecOrder': WHATEVER THE INPUT: true; the input reads as it did. -/
def codecOrderSpec : ChangeSpec := { name := "codecOrder", fn := fun _ => fun
  | [d1, d2] => { results := [.lit (.bool true)], args := [d1, d2] }
  | _ => none }
def codecOrderRow : OpenClaim := { program := "ytjlblbbhmmconaa", sum := "99e0b68e2cb3c6448524173eb8ceb266eb8da154ac7250826aa4f197a0e33712", func := "wardship/wardshiplaw01.CodecOrder", spec := "codecOrder", unfollowed := true, recurses := true, apart := false }
def CodecOrderSaid : Prop := codecOrderRow.holds Try.pinned (OpenSpec.ofChange codecOrderSpec)

/-- ITS FALSE NEIGHBOUR: 'it returns false'. Refute it at one input. -/
def codecOrderWrong : ChangeSpec := { name := "codecOrder", fn := fun _ => fun
  | [d1, d2] => { results := [.lit (.bool false)], args := [d1, d2] }
  | _ => none }
def CodecOrderWrongFalsely : Prop := codecOrderRow.holds Try.pinned (OpenSpec.ofChange codecOrderWrong)

/-- 'wardshiplaw01.CodecNums': WHATEVER THE INPUT: true; the input reads as it did. -/
def codecNumsSpec : ChangeSpec := { name := "codecNums", fn := fun _ => fun
  | [d1, d2] => { results := [.lit (.bool true)], args := [d1, d2] }
  | _ => none }
def codecNumsRow : OpenClaim := { program := "ytjlblbbhmmconaa", sum := "99e0b68e2cb3c6448524173eb8ceb266eb8da154ac7250826aa4f197a0e33712", func := "wardship/wardshiplaw01.CodecNums", spec := "codecNums", unfollowed := true, recurses := true, apart := false }
def CodecNumsSaid : Prop := codecNumsRow.holds Try.pinned (OpenSpec.ofChange codecNumsSpec)

/-- ITS FALSE NEIGHBOUR: 'it returns false'. Refute it at one input. -/
def codecNumsWrong : ChangeSpec := { name := "codecNums", fn := fun _ => fun
  | [d1, d2] => { results := [.lit (.bool false)], args := [d1, d2] }
  | _ => none }
def CodecNumsWrongFalsely : Prop := codecNumsRow.holds Try.pinned (OpenSpec.ofChange codecNumsWrong)

/-- 'wardshiplaw07.SpanShrinks': WHATEVER THE INPUT: true; the input reads as it did. -/
def spanShrinksSpec : ChangeSpec := { name := "spanShrinks", fn := fun _ => fun
  | [d1, d2] => { results := [.lit (.bool true)], args := [d1, d2] }
  | _ => none }
def spanShrinksRow : OpenClaim := { program := "ytjlblbbhmmconaa", sum := "99e0b68e2cb3c6448524173eb8ceb266eb8da154ac7250826aa4f197a0e33712", func := "wardship/wardshiplaw07.SpanShrinks", spec := "spanShrinks", recurses := true, apart := false }
def SpanShrinksSaid : Prop := spanShrinksRow.holds Try.pinned (OpenSpec.ofChange spanShrinksSpec)

/-- ITS FALSE NEIGHBOUR: 'it returns false'. Refute it at one input. -/
def spanShrinksWrong : ChangeSpec := { name := "spanShrinks", fn := fun _ => fun
  | [d1, d2] => { results := [.lit (.bool false)], args := [d1, d2] }
  | _ => none }
def SpanShrinksWrongFalsely : Prop := spanShrinksRow.holds Try.pinned (OpenSpec.ofChange spanShrinksWrong)

/-- 'wardshiplaw07.SpanSmall': WHATEVER THE INPUT: true; the input reads as it did. -/
def spanSmallSpec : ChangeSpec := { name := "spanSmall", fn := fun _ => fun
  | [d1, d2, d3] => { results := [.lit (.bool true)], args := [d1, d2, d3] }
  | _ => none }
def spanSmallRow : OpenClaim := { program := "ytjlblbbhmmconaa", sum := "99e0b68e2cb3c6448524173eb8ceb266eb8da154ac7250826aa4f197a0e33712", func := "wardship/wardshiplaw07.SpanSmall", spec := "spanSmall", apart := false }
def SpanSmallSaid : Prop := spanSmallRow.holds Try.pinned (OpenSpec.ofChange spanSmallSpec)

/-- ITS FALSE NEIGHBOUR: 'it returns false'. Refute it at one input. -/
def spanSmallWrong : ChangeSpec := { name := "spanSmall", fn := fun _ => fun
  | [d1, d2, d3] => { results := [.lit (.bool false)], args := [d1, d2, d3] }
  | _ => none }
def SpanSmallWrongFalsely : Prop := spanSmallRow.holds Try.pinned (OpenSpec.ofChange spanSmallWrong)

/-- 'wardshiplaw07.SpanGrows': WHATEVER THE INPUT: true; the input reads as it did. -/
def spanGrowsSpec : ChangeSpec := { name := "spanGrows", fn := fun _ => fun
  | [d1, d2, d3] => { results := [.lit (.bool true)], args := [d1, d2, d3] }
  | _ => none }
def spanGrowsRow : OpenClaim := { program := "ytjlblbbhmmconaa", sum := "99e0b68e2cb3c6448524173eb8ceb266eb8da154ac7250826aa4f197a0e33712", func := "wardship/wardshiplaw07.SpanGrows", spec := "spanGrows", recurses := true, apart := false }
def SpanGrowsSaid : Prop := spanGrowsRow.holds Try.pinned (OpenSpec.ofChange spanGrowsSpec)

/-- ITS FALSE NEIGHBOUR: 'it returns false'. Refute it at one input. -/
def spanGrowsWrong : ChangeSpec := { name := "spanGrows", fn := fun _ => fun
  | [d1, d2, d3] => { results := [.lit (.bool false)], args := [d1, d2, d3] }
  | _ => none }
def SpanGrowsWrongFalsely : Prop := spanGrowsRow.holds Try.pinned (OpenSpec.ofChange spanGrowsWrong)

/-- 'wardshiplaw07.SpanBack': WHATEVER THE INPUT: true; the input reads as it did. -/
def spanBackSpec : ChangeSpec := { name := "spanBack", fn := fun _ => fun
  | [d1, d2, d3] => { results := [.lit (.bool true)], args := [d1, d2, d3] }
  | _ => none }
def spanBackRow : OpenClaim := { program := "ytjlblbbhmmconaa", sum := "99e0b68e2cb3c6448524173eb8ceb266eb8da154ac7250826aa4f197a0e33712", func := "wardship/wardshiplaw07.SpanBack", spec := "spanBack", apart := false }
def SpanBackSaid : Prop := spanBackRow.holds Try.pinned (OpenSpec.ofChange spanBackSpec)

/-- ITS FALSE NEIGHBOUR: 'it returns false'. Refute it at one input. -/
def spanBackWrong : ChangeSpec := { name := "spanBack", fn := fun _ => fun
  | [d1, d2, d3] => { results := [.lit (.bool false)], args := [d1, d2, d3] }
  | _ => none }
def SpanBackWrongFalsely : Prop := spanBackRow.holds Try.pinned (OpenSpec.ofChange spanBackWrong)

/- THE SECOND FORM. 'bulk': how many values and letters a reading holds, each counted each time it is reached (what is shared counts as often as it is met; a slice's spare places count too). A statement '..UptoSaid' is the law's where the arguments, and the package variables that the reading takes, are together of bulk at most 1048576: NARROWER than '..Said'. Prove '..Said' where nothing that the law and all that it calls make is longer than what came in: it says more and counts as full. Else prove '..UptoSaid'. A law counts once. -/
mutual
def uptoBulk {H : Type} : DataW H → Nat
  | .lit (.string bytes) => bytes.length + 1
  | .lit _ => 1
  | .nil => 1
  | .ptr d => uptoBulk d + 1
  | .slice elems spare => uptoBulkAll elems + uptoBulkAll spare + 1
  | .agg parts => uptoBulkAll parts + 1
  | .iface _ d => uptoBulk d + 1
  | .map entries => uptoBulkEntries entries + 1
  | .held _ => 1
def uptoBulkAll {H : Type} : List (DataW H) → Nat
  | [] => 0
  | d :: r => uptoBulk d + uptoBulkAll r
def uptoBulkEntries {H : Type} : List (Lit × DataW H) → Nat
  | [] => 0
  | x :: r => uptoBulkEntry x + uptoBulkEntries r
def uptoBulkEntry {H : Type} : Lit × DataW H → Nat
  | (.string bytes, d) => bytes.length + uptoBulk d + 1
  | (_, d) => uptoBulk d + 1
 end
def uptoSmall : (H : Type) → List (DataW H) → Bool := fun _ ds => decide (uptoBulkAll ds ≤ 1048576)
def OpenSpec.upto (s : _root_.Go.ChangeSpec) : _root_.Go.OpenSpec := { _root_.Go.OpenSpec.ofChange s with cond := some uptoSmall }

/-- 'wardshiplaw01.CodecOwn', WHERE WHAT IT READS IS OF BULK AT MOST 1048576: true; the input reads as it did. -/
def codecOwnUptoRow : OpenClaim := { program := "ytjlblbbhmmconaa", sum := "99e0b68e2cb3c6448524173eb8ceb266eb8da154ac7250826aa4f197a0e33712", func := "wardship/wardshiplaw01.CodecOwn", spec := "codecOwn", unfollowed := true, recurses := true, apart := false, narrowed := true }
def CodecOwnUptoSaid : Prop := codecOwnUptoRow.holds Try.pinned (OpenSpec.upto codecOwnSpec)

/-- 'wardshiplaw01.CodecCuts', WHERE WHAT IT READS IS OF BULK AT MOST 1048576: true; the input reads as it did. -/
def codecCutsUptoRow : OpenClaim := { program := "ytjlblbbhmmconaa", sum := "99e0b68e2cb3c6448524173eb8ceb266eb8da154ac7250826aa4f197a0e33712", func := "wardship/wardshiplaw01.CodecCuts", spec := "codecCuts", unfollowed := true, recurses := true, apart := false, narrowed := true }
def CodecCutsUptoSaid : Prop := codecCutsUptoRow.holds Try.pinned (OpenSpec.upto codecCutsSpec)

/-- 'wardshiplaw17.TableElse', WHERE WHAT IT READS IS OF BULK AT MOST 1048576: true; the input reads as it did. -/
def tableElseUptoRow : OpenClaim := { program := "ytjlblbbhmmconaa", sum := "99e0b68e2cb3c6448524173eb8ceb266eb8da154ac7250826aa4f197a0e33712", func := "wardship/wardshiplaw17.TableElse", spec := "tableElse", apart := false, narrowed := true }
def TableElseUptoSaid : Prop := tableElseUptoRow.holds Try.pinned (OpenSpec.upto tableElseSpec)

/-- 'wardshiptop.TopVectors', WHERE WHAT IT READS IS OF BULK AT MOST 1048576: true; the input reads as it did. -/
def topVectorsUptoRow : OpenClaim := { program := "ytjlblbbhmmconaa", sum := "99e0b68e2cb3c6448524173eb8ceb266eb8da154ac7250826aa4f197a0e33712", func := "wardship/wardshiptop.TopVectors", spec := "topVectors", apart := false, narrowed := true }
def TopVectorsUptoSaid : Prop := topVectorsUptoRow.holds Try.pinned (OpenSpec.upto topVectorsSpec)

/-- 'wardshiplaw17.TableSure', WHERE WHAT IT READS IS OF BULK AT MOST 1048576: true; the input reads as it did. -/
def tableSureUptoRow : OpenClaim := { program := "ytjlblbbhmmconaa", sum := "99e0b68e2cb3c6448524173eb8ceb266eb8da154ac7250826aa4f197a0e33712", func := "wardship/wardshiplaw17.TableSure", spec := "tableSure", apart := false, narrowed := true }
def TableSureUptoSaid : Prop := tableSureUptoRow.holds Try.pinned (OpenSpec.upto tableSureSpec)

/-- 'wardshiplaw01.CodecOrder', WHERE WHAT IT READS IS OF BULK AT MOST 1048576: true; the input reads as it did. -/
def codecOrderUptoRow : OpenClaim := { program := "ytjlblbbhmmconaa", sum := "99e0b68e2cb3c6448524173eb8ceb266eb8da154ac7250826aa4f197a0e33712", func := "wardship/wardshiplaw01.CodecOrder", spec := "codecOrder", unfollowed := true, recurses := true, apart := false, narrowed := true }
def CodecOrderUptoSaid : Prop := codecOrderUptoRow.holds Try.pinned (OpenSpec.upto codecOrderSpec)

/-- 'wardshiplaw01.CodecNums', WHERE WHAT IT READS IS OF BULK AT MOST 1048576: true; the input reads as it did. -/
def codecNumsUptoRow : OpenClaim := { program := "ytjlblbbhmmconaa", sum := "99e0b68e2cb3c6448524173eb8ceb266eb8da154ac7250826aa4f197a0e33712", func := "wardship/wardshiplaw01.CodecNums", spec := "codecNums", unfollowed := true, recurses := true, apart := false, narrowed := true }
def CodecNumsUptoSaid : Prop := codecNumsUptoRow.holds Try.pinned (OpenSpec.upto codecNumsSpec)

/-- 'wardshiplaw07.SpanShrinks', WHERE WHAT IT READS IS OF BULK AT MOST 1048576: true; the input reads as it did. -/
def spanShrinksUptoRow : OpenClaim := { program := "ytjlblbbhmmconaa", sum := "99e0b68e2cb3c6448524173eb8ceb266eb8da154ac7250826aa4f197a0e33712", func := "wardship/wardshiplaw07.SpanShrinks", spec := "spanShrinks", recurses := true, apart := false, narrowed := true }
def SpanShrinksUptoSaid : Prop := spanShrinksUptoRow.holds Try.pinned (OpenSpec.upto spanShrinksSpec)

/-- 'wardshiplaw07.SpanSmall', WHERE WHAT IT READS IS OF BULK AT MOST 1048576: true; the input reads as it did. -/
def spanSmallUptoRow : OpenClaim := { program := "ytjlblbbhmmconaa", sum := "99e0b68e2cb3c6448524173eb8ceb266eb8da154ac7250826aa4f197a0e33712", func := "wardship/wardshiplaw07.SpanSmall", spec := "spanSmall", apart := false, narrowed := true }
def SpanSmallUptoSaid : Prop := spanSmallUptoRow.holds Try.pinned (OpenSpec.upto spanSmallSpec)

/-- 'wardshiplaw07.SpanGrows', WHERE WHAT IT READS IS OF BULK AT MOST 1048576: true; the input reads as it did. -/
def spanGrowsUptoRow : OpenClaim := { program := "ytjlblbbhmmconaa", sum := "99e0b68e2cb3c6448524173eb8ceb266eb8da154ac7250826aa4f197a0e33712", func := "wardship/wardshiplaw07.SpanGrows", spec := "spanGrows", recurses := true, apart := false, narrowed := true }
def SpanGrowsUptoSaid : Prop := spanGrowsUptoRow.holds Try.pinned (OpenSpec.upto spanGrowsSpec)

/-- 'wardshiplaw07.SpanBack', WHERE WHAT IT READS IS OF BULK AT MOST 1048576: true; the input reads as it did. -/
def spanBackUptoRow : OpenClaim := { program := "ytjlblbbhmmconaa", sum := "99e0b68e2cb3c6448524173eb8ceb266eb8da154ac7250826aa4f197a0e33712", func := "wardship/wardshiplaw07.SpanBack", spec := "spanBack", apart := false, narrowed := true }
def SpanBackUptoSaid : Prop := spanBackUptoRow.holds Try.pinned (OpenSpec.upto spanBackSpec)

end Rows
end Go.Proofs.Ytjlblbbhmmconaa
