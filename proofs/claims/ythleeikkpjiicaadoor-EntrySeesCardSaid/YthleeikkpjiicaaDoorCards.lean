/-
  DERIVED. GIVEN WITH THE SEED: THE CARDS: each row of YthleeikkpjiicaaDoorRows.lean that lists a variable, with what it lists TIED to the program's text (the seventh form; the later family's looks); each row that meets fmt, with fmt's text TOLD by the authors' own Lean function (tested against real Go, not proved from fmt's source: count such statements apart). THE CARD IS WHAT COUNTS. Prove the row's statement (the work); the ties are given (YthleeikkpjiicaaDoorTie.lean); close each card by the builder's one call (the guide's Derived/Test/ToyasCard.lean, 'card_holds'). Laid BY PROGRAM, IN A SANDBOX (cutbox-door.mjs). By AI agents, Wed Nov 11 2026. No macro, syntax, notation, axiom, sorry.
-/
import Derived.Test.YthleeikkpjiicaaDoorRows
import GoSem.ClaimSeven
namespace Go.Proofs.YthleeikkpjiicaaDoor
namespace Rows

/-- THE TIED CARD OF 'wardshiplaw10.EntryNames'. -/
def entryNamesCard : Claim7 := { stood := { row := entryNamesRow, standIns := [], harness := (true, "3afdf1d9e445f4b51b0e7b6e70eb3424303298a393739976e191735f0872220d"), looks := false }, kinds := [], alts := [], laidByText := true, laidKinds := [.data, .data, .data], laidTests := true, laidLooks := .later }
def EntryNamesCardSaid : Prop := Claim7.holds Tryd.pinned (.plain (OpenSpec.ofChange entryNamesSpec)) entryNamesCard

/-- THE TIED CARD OF 'wardshiplaw10.EntrySees'. -/
def entrySeesCard : Claim7 := { stood := { row := entrySeesRow, standIns := [], harness := (true, "3afdf1d9e445f4b51b0e7b6e70eb3424303298a393739976e191735f0872220d"), looks := false }, kinds := [], alts := [], laidByText := true, laidKinds := [.data, .data, .data], laidTests := true, laidLooks := .later }
def EntrySeesCardSaid : Prop := Claim7.holds Tryd.pinned (.plain (OpenSpec.ofChange entrySeesSpec)) entrySeesCard

/-- THE TIED CARD OF 'wardshiplaw10.EntryJoins'. -/
def entryJoinsCard : Claim7 := { stood := { row := entryJoinsRow, standIns := [], harness := (true, "3afdf1d9e445f4b51b0e7b6e70eb3424303298a393739976e191735f0872220d"), looks := false }, kinds := [], alts := [], laidByText := true, laidKinds := [.data, .data, .data], laidTests := true, laidLooks := .later }
def EntryJoinsCardSaid : Prop := Claim7.holds Tryd.pinned (.plain (OpenSpec.ofChange entryJoinsSpec)) entryJoinsCard

/-- THE TIED CARD OF 'wardshiplaw10.EntryChanges'. -/
def entryChangesCard : Claim7 := { stood := { row := entryChangesRow, standIns := [], harness := (true, "3afdf1d9e445f4b51b0e7b6e70eb3424303298a393739976e191735f0872220d"), looks := false }, kinds := [], alts := [], laidByText := true, laidKinds := [.data, .data, .data], laidTests := true, laidLooks := .later }
def EntryChangesCardSaid : Prop := Claim7.holds Tryd.pinned (.plain (OpenSpec.ofChange entryChangesSpec)) entryChangesCard

/-- THE TIED CARD OF 'wardshiplaw10.EntryMeets'. -/
def entryMeetsCard : Claim7 := { stood := { row := entryMeetsRow, standIns := [], harness := (true, "3afdf1d9e445f4b51b0e7b6e70eb3424303298a393739976e191735f0872220d"), looks := false }, kinds := [], alts := [], laidByText := true, laidKinds := [.data, .data, .data], laidTests := true, laidLooks := .later }
def EntryMeetsCardSaid : Prop := Claim7.holds Tryd.pinned (.plain (OpenSpec.ofChange entryMeetsSpec)) entryMeetsCard

/-- THE TIED CARD OF 'wardshiplaw10.EntrySweeps'. -/
def entrySweepsCard : Claim7 := { stood := { row := entrySweepsRow, standIns := [], harness := (true, "3afdf1d9e445f4b51b0e7b6e70eb3424303298a393739976e191735f0872220d"), looks := false }, kinds := [], alts := [], laidByText := true, laidKinds := [.data, .data, .data], laidTests := true, laidLooks := .later }
def EntrySweepsCardSaid : Prop := Claim7.holds Tryd.pinned (.plain (OpenSpec.ofChange entrySweepsSpec)) entrySweepsCard

/-- THE TIED CARD OF 'wardshiplaw10.EntryDies'. -/
def entryDiesCard : Claim7 := { stood := { row := entryDiesRow, standIns := [], harness := (true, "3afdf1d9e445f4b51b0e7b6e70eb3424303298a393739976e191735f0872220d"), looks := false }, kinds := [], alts := [], laidByText := true, laidKinds := [.data, .data, .data], laidTests := true, laidLooks := .later }
def EntryDiesCardSaid : Prop := Claim7.holds Tryd.pinned (.plain (OpenSpec.ofChange entryDiesSpec)) entryDiesCard

/-- THE SECOND FORM's CARD OF 'wardshiplaw10.EntryNames'. -/
def entryNamesUptoCard : Claim7 := { stood := { row := entryNamesUptoRow, standIns := [], harness := (true, "3afdf1d9e445f4b51b0e7b6e70eb3424303298a393739976e191735f0872220d"), looks := false }, kinds := [], alts := [], laidByText := true, laidKinds := [.data, .data, .data], laidTests := true, laidLooks := .later }
def EntryNamesUptoCardSaid : Prop := Claim7.holds Tryd.pinned (.plain (OpenSpec.upto entryNamesSpec)) entryNamesUptoCard

/-- THE SECOND FORM's CARD OF 'wardshiplaw10.EntrySees'. -/
def entrySeesUptoCard : Claim7 := { stood := { row := entrySeesUptoRow, standIns := [], harness := (true, "3afdf1d9e445f4b51b0e7b6e70eb3424303298a393739976e191735f0872220d"), looks := false }, kinds := [], alts := [], laidByText := true, laidKinds := [.data, .data, .data], laidTests := true, laidLooks := .later }
def EntrySeesUptoCardSaid : Prop := Claim7.holds Tryd.pinned (.plain (OpenSpec.upto entrySeesSpec)) entrySeesUptoCard

/-- THE SECOND FORM's CARD OF 'wardshiplaw10.EntryJoins'. -/
def entryJoinsUptoCard : Claim7 := { stood := { row := entryJoinsUptoRow, standIns := [], harness := (true, "3afdf1d9e445f4b51b0e7b6e70eb3424303298a393739976e191735f0872220d"), looks := false }, kinds := [], alts := [], laidByText := true, laidKinds := [.data, .data, .data], laidTests := true, laidLooks := .later }
def EntryJoinsUptoCardSaid : Prop := Claim7.holds Tryd.pinned (.plain (OpenSpec.upto entryJoinsSpec)) entryJoinsUptoCard

/-- THE SECOND FORM's CARD OF 'wardshiplaw10.EntryChanges'. -/
def entryChangesUptoCard : Claim7 := { stood := { row := entryChangesUptoRow, standIns := [], harness := (true, "3afdf1d9e445f4b51b0e7b6e70eb3424303298a393739976e191735f0872220d"), looks := false }, kinds := [], alts := [], laidByText := true, laidKinds := [.data, .data, .data], laidTests := true, laidLooks := .later }
def EntryChangesUptoCardSaid : Prop := Claim7.holds Tryd.pinned (.plain (OpenSpec.upto entryChangesSpec)) entryChangesUptoCard

/-- THE SECOND FORM's CARD OF 'wardshiplaw10.EntryMeets'. -/
def entryMeetsUptoCard : Claim7 := { stood := { row := entryMeetsUptoRow, standIns := [], harness := (true, "3afdf1d9e445f4b51b0e7b6e70eb3424303298a393739976e191735f0872220d"), looks := false }, kinds := [], alts := [], laidByText := true, laidKinds := [.data, .data, .data], laidTests := true, laidLooks := .later }
def EntryMeetsUptoCardSaid : Prop := Claim7.holds Tryd.pinned (.plain (OpenSpec.upto entryMeetsSpec)) entryMeetsUptoCard

/-- THE SECOND FORM's CARD OF 'wardshiplaw10.EntrySweeps'. -/
def entrySweepsUptoCard : Claim7 := { stood := { row := entrySweepsUptoRow, standIns := [], harness := (true, "3afdf1d9e445f4b51b0e7b6e70eb3424303298a393739976e191735f0872220d"), looks := false }, kinds := [], alts := [], laidByText := true, laidKinds := [.data, .data, .data], laidTests := true, laidLooks := .later }
def EntrySweepsUptoCardSaid : Prop := Claim7.holds Tryd.pinned (.plain (OpenSpec.upto entrySweepsSpec)) entrySweepsUptoCard

/-- THE SECOND FORM's CARD OF 'wardshiplaw10.EntryDies'. -/
def entryDiesUptoCard : Claim7 := { stood := { row := entryDiesUptoRow, standIns := [], harness := (true, "3afdf1d9e445f4b51b0e7b6e70eb3424303298a393739976e191735f0872220d"), looks := false }, kinds := [], alts := [], laidByText := true, laidKinds := [.data, .data, .data], laidTests := true, laidLooks := .later }
def EntryDiesUptoCardSaid : Prop := Claim7.holds Tryd.pinned (.plain (OpenSpec.upto entryDiesSpec)) entryDiesUptoCard
end Rows
end Go.Proofs.YthleeikkpjiicaaDoor
