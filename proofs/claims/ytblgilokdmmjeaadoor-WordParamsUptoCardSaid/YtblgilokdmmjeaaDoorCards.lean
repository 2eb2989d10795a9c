/-
  DERIVED. GIVEN WITH THE SEED: THE CARDS: each row of YtblgilokdmmjeaaDoorRows.lean that lists a variable, with what it lists TIED to the program's text (the seventh form; the later family's looks); each row that meets fmt, with fmt's text TOLD by the authors' own Lean function (tested against real Go, not proved from fmt's source: count such statements apart). THE CARD IS WHAT COUNTS. Prove the row's statement (the work); the ties are given (YtblgilokdmmjeaaDoorTie.lean); close each card by the builder's one call (the guide's Derived/Test/ToyasCard.lean, 'card_holds'). Laid BY PROGRAM, IN A SANDBOX (cutbox-door.mjs). By AI agents, Wed Nov 11 2026. No macro, syntax, notation, axiom, sorry.
-/
import Derived.Test.YtblgilokdmmjeaaDoorRows
import GoSem.ClaimSeven
namespace Go.Proofs.YtblgilokdmmjeaaDoor
namespace Rows

/-- THE TIED CARD OF 'shyardlaw05.WordWalks'. -/
def wordWalksCard : Claim7 := { stood := { row := wordWalksRow, standIns := [], harness := (true, "b7d21a3c2ce46de38ce0852821a60092964f56a52b7eaf2ec18504e828396b3b"), looks := false }, kinds := [], alts := [], laidByText := true, laidKinds := [.data, .pinned], laidTests := true, laidLooks := .later }
def WordWalksCardSaid : Prop := Claim7.holds Tryd.pinned (.plain (OpenSpec.ofChange wordWalksSpec)) wordWalksCard

/-- THE TIED CARD OF 'shyardlaw05.WordAssigns'. -/
def wordAssignsCard : Claim7 := { stood := { row := wordAssignsRow, standIns := [], harness := (true, "b7d21a3c2ce46de38ce0852821a60092964f56a52b7eaf2ec18504e828396b3b"), looks := false }, kinds := [], alts := [], laidByText := true, laidKinds := [.data, .pinned], laidTests := true, laidLooks := .later }
def WordAssignsCardSaid : Prop := Claim7.holds Tryd.pinned (.plain (OpenSpec.ofChange wordAssignsSpec)) wordAssignsCard

/-- THE TIED CARD OF 'shyardlaw05.WordDoubles'. -/
def wordDoublesCard : Claim7 := { stood := { row := wordDoublesRow, standIns := [], harness := (true, "b7d21a3c2ce46de38ce0852821a60092964f56a52b7eaf2ec18504e828396b3b"), looks := false }, kinds := [], alts := [], laidByText := true, laidKinds := [.data, .pinned], laidTests := true, laidLooks := .later }
def WordDoublesCardSaid : Prop := Claim7.holds Tryd.pinned (.plain (OpenSpec.ofChange wordDoublesSpec)) wordDoublesCard

/-- THE TIED CARD OF 'shyardlaw05.WordQuotes'. -/
def wordQuotesCard : Claim7 := { stood := { row := wordQuotesRow, standIns := [], harness := (true, "b7d21a3c2ce46de38ce0852821a60092964f56a52b7eaf2ec18504e828396b3b"), looks := false }, kinds := [], alts := [], laidByText := true, laidKinds := [.data, .pinned], laidTests := true, laidLooks := .later }
def WordQuotesCardSaid : Prop := Claim7.holds Tryd.pinned (.plain (OpenSpec.ofChange wordQuotesSpec)) wordQuotesCard

/-- THE TIED CARD OF 'shyardlaw05.WordParams'. -/
def wordParamsCard : Claim7 := { stood := { row := wordParamsRow, standIns := [], harness := (true, "b7d21a3c2ce46de38ce0852821a60092964f56a52b7eaf2ec18504e828396b3b"), looks := false }, kinds := [], alts := [], laidByText := true, laidKinds := [.data, .pinned], laidTests := true, laidLooks := .later }
def WordParamsCardSaid : Prop := Claim7.holds Tryd.pinned (.plain (OpenSpec.ofChange wordParamsSpec)) wordParamsCard

/-- THE SECOND FORM's CARD OF 'shyardlaw05.WordWalks'. -/
def wordWalksUptoCard : Claim7 := { stood := { row := wordWalksUptoRow, standIns := [], harness := (true, "b7d21a3c2ce46de38ce0852821a60092964f56a52b7eaf2ec18504e828396b3b"), looks := false }, kinds := [], alts := [], laidByText := true, laidKinds := [.data, .pinned], laidTests := true, laidLooks := .later }
def WordWalksUptoCardSaid : Prop := Claim7.holds Tryd.pinned (.plain (OpenSpec.upto wordWalksSpec)) wordWalksUptoCard

/-- THE SECOND FORM's CARD OF 'shyardlaw05.WordAssigns'. -/
def wordAssignsUptoCard : Claim7 := { stood := { row := wordAssignsUptoRow, standIns := [], harness := (true, "b7d21a3c2ce46de38ce0852821a60092964f56a52b7eaf2ec18504e828396b3b"), looks := false }, kinds := [], alts := [], laidByText := true, laidKinds := [.data, .pinned], laidTests := true, laidLooks := .later }
def WordAssignsUptoCardSaid : Prop := Claim7.holds Tryd.pinned (.plain (OpenSpec.upto wordAssignsSpec)) wordAssignsUptoCard

/-- THE SECOND FORM's CARD OF 'shyardlaw05.WordDoubles'. -/
def wordDoublesUptoCard : Claim7 := { stood := { row := wordDoublesUptoRow, standIns := [], harness := (true, "b7d21a3c2ce46de38ce0852821a60092964f56a52b7eaf2ec18504e828396b3b"), looks := false }, kinds := [], alts := [], laidByText := true, laidKinds := [.data, .pinned], laidTests := true, laidLooks := .later }
def WordDoublesUptoCardSaid : Prop := Claim7.holds Tryd.pinned (.plain (OpenSpec.upto wordDoublesSpec)) wordDoublesUptoCard

/-- THE SECOND FORM's CARD OF 'shyardlaw05.WordQuotes'. -/
def wordQuotesUptoCard : Claim7 := { stood := { row := wordQuotesUptoRow, standIns := [], harness := (true, "b7d21a3c2ce46de38ce0852821a60092964f56a52b7eaf2ec18504e828396b3b"), looks := false }, kinds := [], alts := [], laidByText := true, laidKinds := [.data, .pinned], laidTests := true, laidLooks := .later }
def WordQuotesUptoCardSaid : Prop := Claim7.holds Tryd.pinned (.plain (OpenSpec.upto wordQuotesSpec)) wordQuotesUptoCard

/-- THE SECOND FORM's CARD OF 'shyardlaw05.WordParams'. -/
def wordParamsUptoCard : Claim7 := { stood := { row := wordParamsUptoRow, standIns := [], harness := (true, "b7d21a3c2ce46de38ce0852821a60092964f56a52b7eaf2ec18504e828396b3b"), looks := false }, kinds := [], alts := [], laidByText := true, laidKinds := [.data, .pinned], laidTests := true, laidLooks := .later }
def WordParamsUptoCardSaid : Prop := Claim7.holds Tryd.pinned (.plain (OpenSpec.upto wordParamsSpec)) wordParamsUptoCard
end Rows
end Go.Proofs.YtblgilokdmmjeaaDoor
