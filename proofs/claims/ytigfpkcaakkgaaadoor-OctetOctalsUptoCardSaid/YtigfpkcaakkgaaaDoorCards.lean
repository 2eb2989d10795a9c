/-
  DERIVED. GIVEN WITH THE SEED: THE CARDS: each row of YtigfpkcaakkgaaaDoorRows.lean that lists a variable, with what it lists TIED to the program's text (the seventh form; the later family's looks); each row that meets fmt, with fmt's text TOLD by the authors' own Lean function (tested against real Go, not proved from fmt's source: count such statements apart). THE CARD IS WHAT COUNTS. Prove the row's statement (the work); the ties are given (YtigfpkcaakkgaaaDoorTie.lean); close each card by the builder's one call (the guide's Derived/Test/ToyasCard.lean, 'card_holds'). Laid BY PROGRAM, IN A SANDBOX (cutbox-door.mjs). By AI agents, Wed Nov 11 2026. No macro, syntax, notation, axiom, sorry.
-/
import Derived.Test.YtigfpkcaakkgaaaDoorRows
import GoSem.ClaimSeven
namespace Go.Proofs.YtigfpkcaakkgaaaDoor
namespace Rows

/-- THE TIED CARD OF 'shyardlaw01.OctetNumbers'. -/
def octetNumbersCard : Claim7 := { stood := { row := octetNumbersRow, standIns := [], harness := (true, "5099f015648a09c8244e3eb41ff8aa21b63c1fa5e39e9daa60f8b058db83c98b"), looks := true }, kinds := [], alts := [], laidByText := true, laidKinds := [.data, .data, .data, .data, .sentinel, .sentinel, .pinned], laidTests := true, laidLooks := .later }
def OctetNumbersCardSaid : Prop := Claim7.holds Tryd.pinned (.plain (OpenSpec.ofChange octetNumbersSpec)) octetNumbersCard

/-- THE TIED CARD OF 'shyardlaw01.OctetSigns'. -/
def octetSignsCard : Claim7 := { stood := { row := octetSignsRow, standIns := [], harness := (true, "5099f015648a09c8244e3eb41ff8aa21b63c1fa5e39e9daa60f8b058db83c98b"), looks := true }, kinds := [], alts := [], laidByText := true, laidKinds := [.data, .data, .data, .data, .sentinel, .sentinel, .pinned], laidTests := true, laidLooks := .later }
def OctetSignsCardSaid : Prop := Claim7.holds Tryd.pinned (.plain (OpenSpec.ofChange octetSignsSpec)) octetSignsCard

/-- THE TIED CARD OF 'shyardlaw01.OctetTexts'. -/
def octetTextsCard : Claim7 := { stood := { row := octetTextsRow, standIns := [], harness := (true, "5099f015648a09c8244e3eb41ff8aa21b63c1fa5e39e9daa60f8b058db83c98b"), looks := true }, kinds := [], alts := [], laidByText := true, laidKinds := [.data, .data, .data, .data, .sentinel, .sentinel, .pinned], laidTests := true, laidLooks := .later }
def OctetTextsCardSaid : Prop := Claim7.holds Tryd.pinned (.plain (OpenSpec.ofChange octetTextsSpec)) octetTextsCard

/-- THE TIED CARD OF 'shyardlaw01.OctetNames'. -/
def octetNamesCard : Claim7 := { stood := { row := octetNamesRow, standIns := [], harness := (true, "5099f015648a09c8244e3eb41ff8aa21b63c1fa5e39e9daa60f8b058db83c98b"), looks := true }, kinds := [], alts := [], laidByText := true, laidKinds := [.data, .data, .data, .data, .sentinel, .sentinel, .pinned], laidTests := true, laidLooks := .later }
def OctetNamesCardSaid : Prop := Claim7.holds Tryd.pinned (.plain (OpenSpec.ofChange octetNamesSpec)) octetNamesCard

/-- THE TIED CARD OF 'shyardlaw01.OctetOctals'. -/
def octetOctalsCard : Claim7 := { stood := { row := octetOctalsRow, standIns := [], harness := (true, "5099f015648a09c8244e3eb41ff8aa21b63c1fa5e39e9daa60f8b058db83c98b"), looks := true }, kinds := [], alts := [], laidByText := true, laidKinds := [.data, .data, .data, .data, .sentinel, .sentinel, .pinned], laidTests := true, laidLooks := .later }
def OctetOctalsCardSaid : Prop := Claim7.holds Tryd.pinned (.plain (OpenSpec.ofChange octetOctalsSpec)) octetOctalsCard

/-- THE TIED CARD OF 'shyardlaw01.OctetLines'. -/
def octetLinesCard : Claim7 := { stood := { row := octetLinesRow, standIns := [], harness := (true, "5099f015648a09c8244e3eb41ff8aa21b63c1fa5e39e9daa60f8b058db83c98b"), looks := true }, kinds := [], alts := [], laidByText := true, laidKinds := [.data, .data, .data, .data, .sentinel, .sentinel, .pinned], laidTests := true, laidLooks := .later }
def OctetLinesCardSaid : Prop := Claim7.holds Tryd.pinned (.plain (OpenSpec.ofChange octetLinesSpec)) octetLinesCard

/-- THE TIED CARD OF 'shyardlaw01.OctetJoined'. -/
def octetJoinedCard : Claim7 := { stood := { row := octetJoinedRow, standIns := [], harness := (true, "5099f015648a09c8244e3eb41ff8aa21b63c1fa5e39e9daa60f8b058db83c98b"), looks := true }, kinds := [], alts := [], laidByText := true, laidKinds := [.data, .data, .data, .data, .sentinel, .sentinel, .pinned], laidTests := true, laidLooks := .later }
def OctetJoinedCardSaid : Prop := Claim7.holds Tryd.pinned (.plain (OpenSpec.ofChange octetJoinedSpec)) octetJoinedCard

/-- THE SECOND FORM's CARD OF 'shyardlaw01.OctetNumbers'. -/
def octetNumbersUptoCard : Claim7 := { stood := { row := octetNumbersUptoRow, standIns := [], harness := (true, "5099f015648a09c8244e3eb41ff8aa21b63c1fa5e39e9daa60f8b058db83c98b"), looks := true }, kinds := [], alts := [], laidByText := true, laidKinds := [.data, .data, .data, .data, .sentinel, .sentinel, .pinned], laidTests := true, laidLooks := .later }
def OctetNumbersUptoCardSaid : Prop := Claim7.holds Tryd.pinned (.plain (OpenSpec.upto octetNumbersSpec)) octetNumbersUptoCard

/-- THE SECOND FORM's CARD OF 'shyardlaw01.OctetSigns'. -/
def octetSignsUptoCard : Claim7 := { stood := { row := octetSignsUptoRow, standIns := [], harness := (true, "5099f015648a09c8244e3eb41ff8aa21b63c1fa5e39e9daa60f8b058db83c98b"), looks := true }, kinds := [], alts := [], laidByText := true, laidKinds := [.data, .data, .data, .data, .sentinel, .sentinel, .pinned], laidTests := true, laidLooks := .later }
def OctetSignsUptoCardSaid : Prop := Claim7.holds Tryd.pinned (.plain (OpenSpec.upto octetSignsSpec)) octetSignsUptoCard

/-- THE SECOND FORM's CARD OF 'shyardlaw01.OctetTexts'. -/
def octetTextsUptoCard : Claim7 := { stood := { row := octetTextsUptoRow, standIns := [], harness := (true, "5099f015648a09c8244e3eb41ff8aa21b63c1fa5e39e9daa60f8b058db83c98b"), looks := true }, kinds := [], alts := [], laidByText := true, laidKinds := [.data, .data, .data, .data, .sentinel, .sentinel, .pinned], laidTests := true, laidLooks := .later }
def OctetTextsUptoCardSaid : Prop := Claim7.holds Tryd.pinned (.plain (OpenSpec.upto octetTextsSpec)) octetTextsUptoCard

/-- THE SECOND FORM's CARD OF 'shyardlaw01.OctetNames'. -/
def octetNamesUptoCard : Claim7 := { stood := { row := octetNamesUptoRow, standIns := [], harness := (true, "5099f015648a09c8244e3eb41ff8aa21b63c1fa5e39e9daa60f8b058db83c98b"), looks := true }, kinds := [], alts := [], laidByText := true, laidKinds := [.data, .data, .data, .data, .sentinel, .sentinel, .pinned], laidTests := true, laidLooks := .later }
def OctetNamesUptoCardSaid : Prop := Claim7.holds Tryd.pinned (.plain (OpenSpec.upto octetNamesSpec)) octetNamesUptoCard

/-- THE SECOND FORM's CARD OF 'shyardlaw01.OctetOctals'. -/
def octetOctalsUptoCard : Claim7 := { stood := { row := octetOctalsUptoRow, standIns := [], harness := (true, "5099f015648a09c8244e3eb41ff8aa21b63c1fa5e39e9daa60f8b058db83c98b"), looks := true }, kinds := [], alts := [], laidByText := true, laidKinds := [.data, .data, .data, .data, .sentinel, .sentinel, .pinned], laidTests := true, laidLooks := .later }
def OctetOctalsUptoCardSaid : Prop := Claim7.holds Tryd.pinned (.plain (OpenSpec.upto octetOctalsSpec)) octetOctalsUptoCard

/-- THE SECOND FORM's CARD OF 'shyardlaw01.OctetLines'. -/
def octetLinesUptoCard : Claim7 := { stood := { row := octetLinesUptoRow, standIns := [], harness := (true, "5099f015648a09c8244e3eb41ff8aa21b63c1fa5e39e9daa60f8b058db83c98b"), looks := true }, kinds := [], alts := [], laidByText := true, laidKinds := [.data, .data, .data, .data, .sentinel, .sentinel, .pinned], laidTests := true, laidLooks := .later }
def OctetLinesUptoCardSaid : Prop := Claim7.holds Tryd.pinned (.plain (OpenSpec.upto octetLinesSpec)) octetLinesUptoCard

/-- THE SECOND FORM's CARD OF 'shyardlaw01.OctetJoined'. -/
def octetJoinedUptoCard : Claim7 := { stood := { row := octetJoinedUptoRow, standIns := [], harness := (true, "5099f015648a09c8244e3eb41ff8aa21b63c1fa5e39e9daa60f8b058db83c98b"), looks := true }, kinds := [], alts := [], laidByText := true, laidKinds := [.data, .data, .data, .data, .sentinel, .sentinel, .pinned], laidTests := true, laidLooks := .later }
def OctetJoinedUptoCardSaid : Prop := Claim7.holds Tryd.pinned (.plain (OpenSpec.upto octetJoinedSpec)) octetJoinedUptoCard
end Rows
end Go.Proofs.YtigfpkcaakkgaaaDoor
