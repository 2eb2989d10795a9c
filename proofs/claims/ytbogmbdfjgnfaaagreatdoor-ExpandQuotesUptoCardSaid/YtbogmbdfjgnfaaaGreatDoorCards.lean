/-
  DERIVED. GIVEN WITH THE SEED: THE CARDS: each row of YtbogmbdfjgnfaaaGreatDoorRows.lean that lists a variable, with what it lists TIED to the program's text (the seventh form; the later family's looks); each row that meets fmt, with fmt's text TOLD by the authors' own Lean function (tested against real Go, not proved from fmt's source: count such statements apart). THE CARD IS WHAT COUNTS. Prove the row's statement (the work); the ties are given (YtbogmbdfjgnfaaaGreatDoorTie.lean); close each card by the builder's one call (the guide's Derived/Test/ToyasCard.lean, 'card_holds'). Laid BY PROGRAM, IN A SANDBOX (cutbox-door.mjs). By AI agents, Wed Nov 11 2026. No macro, syntax, notation, axiom, sorry.
-/
import Derived.Test.YtbogmbdfjgnfaaaGreatDoorRows
import GoSem.ClaimSeven
namespace Go.Proofs.YtbogmbdfjgnfaaaGreatDoor
namespace Rows

/-- THE TIED CARD OF 'shyardlaw16.ExpandParams'. -/
def expandParamsCard : Claim7 := { stood := { row := expandParamsRow, standIns := [], harness := (true, "17b5f4a8af7be7c50f17d74054c1ce79bdcd1ead3dd33f181df48c1eb2c54135"), looks := false }, kinds := [], alts := [], laidByText := true, laidKinds := [.data, .data, .data, .data, .pinned], laidTests := true, laidLooks := .later }
def ExpandParamsCardSaid : Prop := Claim7.holds Tryz.pinned (.plain (OpenSpec.ofChange expandParamsSpec)) expandParamsCard

/-- THE TIED CARD OF 'shyardlaw16.ExpandCommands'. -/
def expandCommandsCard : Claim7 := { stood := { row := expandCommandsRow, standIns := [], harness := (true, "17b5f4a8af7be7c50f17d74054c1ce79bdcd1ead3dd33f181df48c1eb2c54135"), looks := false }, kinds := [], alts := [], laidByText := true, laidKinds := [.data, .data, .data, .data, .pinned], laidTests := true, laidLooks := .later }
def ExpandCommandsCardSaid : Prop := Claim7.holds Tryz.pinned (.plain (OpenSpec.ofChange expandCommandsSpec)) expandCommandsCard

/-- THE TIED CARD OF 'shyardlaw16.ExpandNobody'. -/
def expandNobodyCard : Claim7 := { stood := { row := expandNobodyRow, standIns := [], harness := (true, "17b5f4a8af7be7c50f17d74054c1ce79bdcd1ead3dd33f181df48c1eb2c54135"), looks := false }, kinds := [], alts := [], laidByText := true, laidKinds := [.data, .data, .data, .data, .pinned], laidTests := true, laidLooks := .later }
def ExpandNobodyCardSaid : Prop := Claim7.holds Tryz.pinned (.plain (OpenSpec.ofChange expandNobodySpec)) expandNobodyCard

/-- THE TIED CARD OF 'shyardlaw16.ExpandQuotes'. -/
def expandQuotesCard : Claim7 := { stood := { row := expandQuotesRow, standIns := [], harness := (true, "17b5f4a8af7be7c50f17d74054c1ce79bdcd1ead3dd33f181df48c1eb2c54135"), looks := false }, kinds := [], alts := [], laidByText := true, laidKinds := [.data, .data, .data, .data, .pinned], laidTests := true, laidLooks := .later }
def ExpandQuotesCardSaid : Prop := Claim7.holds Tryz.pinned (.plain (OpenSpec.ofChange expandQuotesSpec)) expandQuotesCard

/-- THE SECOND FORM's CARD OF 'shyardlaw16.ExpandParams'. -/
def expandParamsUptoCard : Claim7 := { stood := { row := expandParamsUptoRow, standIns := [], harness := (true, "17b5f4a8af7be7c50f17d74054c1ce79bdcd1ead3dd33f181df48c1eb2c54135"), looks := false }, kinds := [], alts := [], laidByText := true, laidKinds := [.data, .data, .data, .data, .pinned], laidTests := true, laidLooks := .later }
def ExpandParamsUptoCardSaid : Prop := Claim7.holds Tryz.pinned (.plain (OpenSpec.upto expandParamsSpec)) expandParamsUptoCard

/-- THE SECOND FORM's CARD OF 'shyardlaw16.ExpandCommands'. -/
def expandCommandsUptoCard : Claim7 := { stood := { row := expandCommandsUptoRow, standIns := [], harness := (true, "17b5f4a8af7be7c50f17d74054c1ce79bdcd1ead3dd33f181df48c1eb2c54135"), looks := false }, kinds := [], alts := [], laidByText := true, laidKinds := [.data, .data, .data, .data, .pinned], laidTests := true, laidLooks := .later }
def ExpandCommandsUptoCardSaid : Prop := Claim7.holds Tryz.pinned (.plain (OpenSpec.upto expandCommandsSpec)) expandCommandsUptoCard

/-- THE SECOND FORM's CARD OF 'shyardlaw16.ExpandNobody'. -/
def expandNobodyUptoCard : Claim7 := { stood := { row := expandNobodyUptoRow, standIns := [], harness := (true, "17b5f4a8af7be7c50f17d74054c1ce79bdcd1ead3dd33f181df48c1eb2c54135"), looks := false }, kinds := [], alts := [], laidByText := true, laidKinds := [.data, .data, .data, .data, .pinned], laidTests := true, laidLooks := .later }
def ExpandNobodyUptoCardSaid : Prop := Claim7.holds Tryz.pinned (.plain (OpenSpec.upto expandNobodySpec)) expandNobodyUptoCard

/-- THE SECOND FORM's CARD OF 'shyardlaw16.ExpandQuotes'. -/
def expandQuotesUptoCard : Claim7 := { stood := { row := expandQuotesUptoRow, standIns := [], harness := (true, "17b5f4a8af7be7c50f17d74054c1ce79bdcd1ead3dd33f181df48c1eb2c54135"), looks := false }, kinds := [], alts := [], laidByText := true, laidKinds := [.data, .data, .data, .data, .pinned], laidTests := true, laidLooks := .later }
def ExpandQuotesUptoCardSaid : Prop := Claim7.holds Tryz.pinned (.plain (OpenSpec.upto expandQuotesSpec)) expandQuotesUptoCard
end Rows
end Go.Proofs.YtbogmbdfjgnfaaaGreatDoor
