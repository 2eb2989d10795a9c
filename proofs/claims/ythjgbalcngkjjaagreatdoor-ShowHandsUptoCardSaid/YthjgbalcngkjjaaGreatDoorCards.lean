/-
  DERIVED. GIVEN WITH THE SEED: THE CARDS: each row of YthjgbalcngkjjaaGreatDoorRows.lean that lists a variable, with what it lists TIED to the program's text (the seventh form; the later family's looks); each row that meets fmt, with fmt's text TOLD by the authors' own Lean function (tested against real Go, not proved from fmt's source: count such statements apart). THE CARD IS WHAT COUNTS. Prove the row's statement (the work); the ties are given (YthjgbalcngkjjaaGreatDoorTie.lean); close each card by the builder's one call (the guide's Derived/Test/ToyasCard.lean, 'card_holds'). Laid BY PROGRAM, IN A SANDBOX (cutbox-door.mjs). By AI agents, Wed Nov 11 2026. No macro, syntax, notation, axiom, sorry.
-/
import Derived.Test.YthjgbalcngkjjaaGreatDoorRows
import GoSem.ClaimSeven
namespace Go.Proofs.YthjgbalcngkjjaaGreatDoor
namespace Rows

/-- THE TIED CARD OF 'shyardlaw07.ShowHands'. -/
def showHandsCard : Claim7 := { stood := { row := showHandsRow, standIns := [], harness := (true, "eca089d27bc444d1ce40374f28ffa09baa30b07d70c2f53d0ef8daefb2cd816e"), looks := true }, kinds := [], alts := [], laidByText := true, laidKinds := [.data, .data, .data, .data, .sentinel, .sentinel, .pinned], laidTests := true, laidLooks := .later }
def ShowHandsCardSaid : Prop := Claim7.holds Tryz.pinned (.plain (OpenSpec.ofChange showHandsSpec)) showHandsCard

/-- THE SECOND FORM's CARD OF 'shyardlaw07.ShowHands'. -/
def showHandsUptoCard : Claim7 := { stood := { row := showHandsUptoRow, standIns := [], harness := (true, "eca089d27bc444d1ce40374f28ffa09baa30b07d70c2f53d0ef8daefb2cd816e"), looks := true }, kinds := [], alts := [], laidByText := true, laidKinds := [.data, .data, .data, .data, .sentinel, .sentinel, .pinned], laidTests := true, laidLooks := .later }
def ShowHandsUptoCardSaid : Prop := Claim7.holds Tryz.pinned (.plain (OpenSpec.upto showHandsSpec)) showHandsUptoCard
end Rows
end Go.Proofs.YthjgbalcngkjjaaGreatDoor
