/-
  DERIVED. GIVEN WITH THE SEED: THE CARDS: each row of YtfnmioggkmkmcaaDoorRows.lean that lists a variable, with what it lists TIED to the program's text (the seventh form; the later family's looks); each row that meets fmt, with fmt's text TOLD by the authors' own Lean function (tested against real Go, not proved from fmt's source: count such statements apart). THE CARD IS WHAT COUNTS. Prove the row's statement (the work); the ties are given (YtfnmioggkmkmcaaDoorTie.lean); close each card by the builder's one call (the guide's Derived/Test/ToyasCard.lean, 'card_holds'). Laid BY PROGRAM, IN A SANDBOX (cutbox-door.mjs). By AI agents, Wed Nov 11 2026. No macro, syntax, notation, axiom, sorry.
-/
import Derived.Test.YtfnmioggkmkmcaaDoorRows
import GoSem.ClaimSeven
namespace Go.Proofs.YtfnmioggkmkmcaaDoor
namespace Rows

/-- THE TIED CARD OF 'shyardlaw04.LexStands'. -/
def lexStandsCard : Claim7 := { stood := { row := lexStandsRow, standIns := [], harness := (true, "67d8d07cfc7bb928a4fdecc794deae98cebc99b9a59bc3509a330897168bcd38"), looks := false }, kinds := [], alts := [], laidByText := true, laidKinds := [.data, .pinned], laidTests := true, laidLooks := .later }
def LexStandsCardSaid : Prop := Claim7.holds Tryd.pinned (.plain (OpenSpec.ofChange lexStandsSpec)) lexStandsCard

/-- THE TIED CARD OF 'shyardlaw04.LexAhead'. -/
def lexAheadCard : Claim7 := { stood := { row := lexAheadRow, standIns := [], harness := (true, "67d8d07cfc7bb928a4fdecc794deae98cebc99b9a59bc3509a330897168bcd38"), looks := false }, kinds := [], alts := [], laidByText := true, laidKinds := [.data, .pinned], laidTests := true, laidLooks := .later }
def LexAheadCardSaid : Prop := Claim7.holds Tryd.pinned (.plain (OpenSpec.ofChange lexAheadSpec)) lexAheadCard

/-- THE TIED CARD OF 'shyardlaw04.LexDocs'. -/
def lexDocsCard : Claim7 := { stood := { row := lexDocsRow, standIns := [], harness := (true, "67d8d07cfc7bb928a4fdecc794deae98cebc99b9a59bc3509a330897168bcd38"), looks := false }, kinds := [], alts := [], laidByText := true, laidKinds := [.data, .pinned], laidTests := true, laidLooks := .later }
def LexDocsCardSaid : Prop := Claim7.holds Tryd.pinned (.plain (OpenSpec.ofChange lexDocsSpec)) lexDocsCard

/-- THE TIED CARD OF 'shyardlaw04.LexTokens'. -/
def lexTokensCard : Claim7 := { stood := { row := lexTokensRow, standIns := [], harness := (true, "67d8d07cfc7bb928a4fdecc794deae98cebc99b9a59bc3509a330897168bcd38"), looks := false }, kinds := [], alts := [], laidByText := true, laidKinds := [.data, .pinned], laidTests := true, laidLooks := .later }
def LexTokensCardSaid : Prop := Claim7.holds Tryd.pinned (.plain (OpenSpec.ofChange lexTokensSpec)) lexTokensCard

/-- THE TIED CARD OF 'shyardlaw04.LexEnds'. -/
def lexEndsCard : Claim7 := { stood := { row := lexEndsRow, standIns := [], harness := (true, "67d8d07cfc7bb928a4fdecc794deae98cebc99b9a59bc3509a330897168bcd38"), looks := false }, kinds := [], alts := [], laidByText := true, laidKinds := [.data, .pinned], laidTests := true, laidLooks := .later }
def LexEndsCardSaid : Prop := Claim7.holds Tryd.pinned (.plain (OpenSpec.ofChange lexEndsSpec)) lexEndsCard

/-- THE TIED CARD OF 'shyardlaw04.LexQuoted'. -/
def lexQuotedCard : Claim7 := { stood := { row := lexQuotedRow, standIns := [], harness := (true, "67d8d07cfc7bb928a4fdecc794deae98cebc99b9a59bc3509a330897168bcd38"), looks := false }, kinds := [], alts := [], laidByText := true, laidKinds := [.data, .pinned], laidTests := true, laidLooks := .later }
def LexQuotedCardSaid : Prop := Claim7.holds Tryd.pinned (.plain (OpenSpec.ofChange lexQuotedSpec)) lexQuotedCard

/-- THE SECOND FORM's CARD OF 'shyardlaw04.LexStands'. -/
def lexStandsUptoCard : Claim7 := { stood := { row := lexStandsUptoRow, standIns := [], harness := (true, "67d8d07cfc7bb928a4fdecc794deae98cebc99b9a59bc3509a330897168bcd38"), looks := false }, kinds := [], alts := [], laidByText := true, laidKinds := [.data, .pinned], laidTests := true, laidLooks := .later }
def LexStandsUptoCardSaid : Prop := Claim7.holds Tryd.pinned (.plain (OpenSpec.upto lexStandsSpec)) lexStandsUptoCard

/-- THE SECOND FORM's CARD OF 'shyardlaw04.LexAhead'. -/
def lexAheadUptoCard : Claim7 := { stood := { row := lexAheadUptoRow, standIns := [], harness := (true, "67d8d07cfc7bb928a4fdecc794deae98cebc99b9a59bc3509a330897168bcd38"), looks := false }, kinds := [], alts := [], laidByText := true, laidKinds := [.data, .pinned], laidTests := true, laidLooks := .later }
def LexAheadUptoCardSaid : Prop := Claim7.holds Tryd.pinned (.plain (OpenSpec.upto lexAheadSpec)) lexAheadUptoCard

/-- THE SECOND FORM's CARD OF 'shyardlaw04.LexDocs'. -/
def lexDocsUptoCard : Claim7 := { stood := { row := lexDocsUptoRow, standIns := [], harness := (true, "67d8d07cfc7bb928a4fdecc794deae98cebc99b9a59bc3509a330897168bcd38"), looks := false }, kinds := [], alts := [], laidByText := true, laidKinds := [.data, .pinned], laidTests := true, laidLooks := .later }
def LexDocsUptoCardSaid : Prop := Claim7.holds Tryd.pinned (.plain (OpenSpec.upto lexDocsSpec)) lexDocsUptoCard

/-- THE SECOND FORM's CARD OF 'shyardlaw04.LexTokens'. -/
def lexTokensUptoCard : Claim7 := { stood := { row := lexTokensUptoRow, standIns := [], harness := (true, "67d8d07cfc7bb928a4fdecc794deae98cebc99b9a59bc3509a330897168bcd38"), looks := false }, kinds := [], alts := [], laidByText := true, laidKinds := [.data, .pinned], laidTests := true, laidLooks := .later }
def LexTokensUptoCardSaid : Prop := Claim7.holds Tryd.pinned (.plain (OpenSpec.upto lexTokensSpec)) lexTokensUptoCard

/-- THE SECOND FORM's CARD OF 'shyardlaw04.LexEnds'. -/
def lexEndsUptoCard : Claim7 := { stood := { row := lexEndsUptoRow, standIns := [], harness := (true, "67d8d07cfc7bb928a4fdecc794deae98cebc99b9a59bc3509a330897168bcd38"), looks := false }, kinds := [], alts := [], laidByText := true, laidKinds := [.data, .pinned], laidTests := true, laidLooks := .later }
def LexEndsUptoCardSaid : Prop := Claim7.holds Tryd.pinned (.plain (OpenSpec.upto lexEndsSpec)) lexEndsUptoCard

/-- THE SECOND FORM's CARD OF 'shyardlaw04.LexQuoted'. -/
def lexQuotedUptoCard : Claim7 := { stood := { row := lexQuotedUptoRow, standIns := [], harness := (true, "67d8d07cfc7bb928a4fdecc794deae98cebc99b9a59bc3509a330897168bcd38"), looks := false }, kinds := [], alts := [], laidByText := true, laidKinds := [.data, .pinned], laidTests := true, laidLooks := .later }
def LexQuotedUptoCardSaid : Prop := Claim7.holds Tryd.pinned (.plain (OpenSpec.upto lexQuotedSpec)) lexQuotedUptoCard
end Rows
end Go.Proofs.YtfnmioggkmkmcaaDoor
