/-
  DERIVED. GIVEN WITH THE SEED: THE CARDS: each row of YtbndcpjklngfhaaGreatDoorRows.lean that lists a variable, with what it lists TIED to the program's text (the seventh form; the later family's looks); each row that meets fmt, with fmt's text TOLD by the authors' own Lean function (tested against real Go, not proved from fmt's source: count such statements apart). THE CARD IS WHAT COUNTS. Prove the row's statement (the work); the ties are given (YtbndcpjklngfhaaGreatDoorTie.lean); close each card by the builder's one call (the guide's Derived/Test/ToyasCard.lean, 'card_holds'). Laid BY PROGRAM, IN A SANDBOX (cutbox-door.mjs). By AI agents, Wed Nov 11 2026. No macro, syntax, notation, axiom, sorry.
-/
import Derived.Test.YtbndcpjklngfhaaGreatDoorRows
import GoSem.ClaimSeven
namespace Go.Proofs.YtbndcpjklngfhaaGreatDoor
namespace Rows

/-- THE TIED CARD OF 'shyardlaw16.ExpandFields'. -/
def expandFieldsCard : Claim7 := { stood := { row := expandFieldsRow, standIns := [], harness := (true, "015b5629f08c6772d992619daa75eb135efb0051850b786353b041e53d1daa46"), looks := false }, kinds := [], alts := [], laidByText := true, laidKinds := [.data, .data, .data, .data, .pinned], laidTests := true, laidLooks := .later }
def ExpandFieldsCardSaid : Prop := Claim7.holds Tryz.pinned (.plain (OpenSpec.ofChange expandFieldsSpec)) expandFieldsCard

/-- THE SECOND FORM's CARD OF 'shyardlaw16.ExpandFields'. -/
def expandFieldsUptoCard : Claim7 := { stood := { row := expandFieldsUptoRow, standIns := [], harness := (true, "015b5629f08c6772d992619daa75eb135efb0051850b786353b041e53d1daa46"), looks := false }, kinds := [], alts := [], laidByText := true, laidKinds := [.data, .data, .data, .data, .pinned], laidTests := true, laidLooks := .later }
def ExpandFieldsUptoCardSaid : Prop := Claim7.holds Tryz.pinned (.plain (OpenSpec.upto expandFieldsSpec)) expandFieldsUptoCard
end Rows
end Go.Proofs.YtbndcpjklngfhaaGreatDoor
