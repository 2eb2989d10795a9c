/-
  DERIVED. GIVEN WITH THE SEED: THE CARDS: each row of YtmjcakamgeepbaaGreatDoorRows.lean that lists a variable, with what it lists TIED to the program's text (the seventh form; the later family's looks); each row that meets fmt, with fmt's text TOLD by the authors' own Lean function (tested against real Go, not proved from fmt's source: count such statements apart). THE CARD IS WHAT COUNTS. Prove the row's statement (the work); the ties are given (YtmjcakamgeepbaaGreatDoorTie.lean); close each card by the builder's one call (the guide's Derived/Test/ToyasCard.lean, 'card_holds'). Laid BY PROGRAM, IN A SANDBOX (cutbox-door.mjs). By AI agents, Wed Nov 11 2026. No macro, syntax, notation, axiom, sorry.
-/
import Derived.Test.YtmjcakamgeepbaaGreatDoorRows
import GoSem.ClaimSeven
namespace Go.Proofs.YtmjcakamgeepbaaGreatDoor
namespace Rows

/-- THE TIED CARD OF 'shyardlaw16.ExpandOneField'. -/
def expandOneFieldCard : Claim7 := { stood := { row := expandOneFieldRow, standIns := [], harness := (true, "993ec27677191a788a5369471bb2ea61a02787d8e72314531ab4a89907c0f336"), looks := false }, kinds := [], alts := [], laidByText := true, laidKinds := [.data, .data, .data, .data, .pinned], laidTests := true, laidLooks := .later }
def ExpandOneFieldCardSaid : Prop := Claim7.holds Tryz.pinned (.plain (OpenSpec.ofChange expandOneFieldSpec)) expandOneFieldCard

/-- THE SECOND FORM's CARD OF 'shyardlaw16.ExpandOneField'. -/
def expandOneFieldUptoCard : Claim7 := { stood := { row := expandOneFieldUptoRow, standIns := [], harness := (true, "993ec27677191a788a5369471bb2ea61a02787d8e72314531ab4a89907c0f336"), looks := false }, kinds := [], alts := [], laidByText := true, laidKinds := [.data, .data, .data, .data, .pinned], laidTests := true, laidLooks := .later }
def ExpandOneFieldUptoCardSaid : Prop := Claim7.holds Tryz.pinned (.plain (OpenSpec.upto expandOneFieldSpec)) expandOneFieldUptoCard
end Rows
end Go.Proofs.YtmjcakamgeepbaaGreatDoor
