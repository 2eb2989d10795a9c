/-
  DERIVED. GIVEN WITH THE SEED: THE CARDS: each row of YtomcodpgickmgaaGreatDoorRows.lean that lists a variable, with what it lists TIED to the program's text (the seventh form; the later family's looks); each row that meets fmt, with fmt's text TOLD by the authors' own Lean function (tested against real Go, not proved from fmt's source: count such statements apart). THE CARD IS WHAT COUNTS. Prove the row's statement (the work); the ties are given (YtomcodpgickmgaaGreatDoorTie.lean); close each card by the builder's one call (the guide's Derived/Test/ToyasCard.lean, 'card_holds'). Laid BY PROGRAM, IN A SANDBOX (cutbox-door.mjs). By AI agents, Wed Nov 11 2026. No macro, syntax, notation, axiom, sorry.
-/
import Derived.Test.YtomcodpgickmgaaGreatDoorRows
import GoSem.ClaimSeven
namespace Go.Proofs.YtomcodpgickmgaaGreatDoor
namespace Rows

/-- THE TIED CARD OF 'shyardlaw06.ParseDepth'. -/
def parseDepthCard : Claim7 := { stood := { row := parseDepthRow, standIns := [], harness := (true, "a13912e290b1f6a060589e00c8078a8bbacf1225ab086409b4f58f3689bc104a"), looks := true }, kinds := [], alts := [], laidByText := true, laidKinds := [.data, .data, .data, .data, .sentinel, .sentinel, .pinned], laidTests := true, laidLooks := .later }
def ParseDepthCardSaid : Prop := Claim7.holds Tryz.pinned (.plain (OpenSpec.ofChange parseDepthSpec)) parseDepthCard

/-- THE TIED CARD OF 'shyardlaw06.ParseGroups'. -/
def parseGroupsCard : Claim7 := { stood := { row := parseGroupsRow, standIns := [], harness := (true, "a13912e290b1f6a060589e00c8078a8bbacf1225ab086409b4f58f3689bc104a"), looks := true }, kinds := [], alts := [], laidByText := true, laidKinds := [.data, .data, .data, .data, .sentinel, .sentinel, .pinned], laidTests := true, laidLooks := .later }
def ParseGroupsCardSaid : Prop := Claim7.holds Tryz.pinned (.plain (OpenSpec.ofChange parseGroupsSpec)) parseGroupsCard

/-- THE TIED CARD OF 'shyardlaw06.ParseWords'. -/
def parseWordsCard : Claim7 := { stood := { row := parseWordsRow, standIns := [], harness := (true, "a13912e290b1f6a060589e00c8078a8bbacf1225ab086409b4f58f3689bc104a"), looks := true }, kinds := [], alts := [], laidByText := true, laidKinds := [.data, .data, .data, .data, .sentinel, .sentinel, .pinned], laidTests := true, laidLooks := .later }
def ParseWordsCardSaid : Prop := Claim7.holds Tryz.pinned (.plain (OpenSpec.ofChange parseWordsSpec)) parseWordsCard

/-- THE TIED CARD OF 'shyardlaw07.ShowHands'. -/
def showHandsCard : Claim7 := { stood := { row := showHandsRow, standIns := [], harness := (true, "a13912e290b1f6a060589e00c8078a8bbacf1225ab086409b4f58f3689bc104a"), looks := true }, kinds := [], alts := [], laidByText := true, laidKinds := [.data, .data, .data, .data, .sentinel, .sentinel, .pinned], laidTests := true, laidLooks := .later }
def ShowHandsCardSaid : Prop := Claim7.holds Tryz.pinned (.plain (OpenSpec.ofChange showHandsSpec)) showHandsCard

/-- THE TIED CARD OF 'shyardlaw07.ShowPlain'. -/
def showPlainCard : Claim7 := { stood := { row := showPlainRow, standIns := [], harness := (true, "a13912e290b1f6a060589e00c8078a8bbacf1225ab086409b4f58f3689bc104a"), looks := true }, kinds := [], alts := [], laidByText := true, laidKinds := [.data, .data, .data, .data, .sentinel, .sentinel, .pinned], laidTests := true, laidLooks := .later }
def ShowPlainCardSaid : Prop := Claim7.holds Tryz.pinned (.plain (OpenSpec.ofChange showPlainSpec)) showPlainCard

/-- THE SECOND FORM's CARD OF 'shyardlaw06.ParseDepth'. -/
def parseDepthUptoCard : Claim7 := { stood := { row := parseDepthUptoRow, standIns := [], harness := (true, "a13912e290b1f6a060589e00c8078a8bbacf1225ab086409b4f58f3689bc104a"), looks := true }, kinds := [], alts := [], laidByText := true, laidKinds := [.data, .data, .data, .data, .sentinel, .sentinel, .pinned], laidTests := true, laidLooks := .later }
def ParseDepthUptoCardSaid : Prop := Claim7.holds Tryz.pinned (.plain (OpenSpec.upto parseDepthSpec)) parseDepthUptoCard

/-- THE SECOND FORM's CARD OF 'shyardlaw06.ParseGroups'. -/
def parseGroupsUptoCard : Claim7 := { stood := { row := parseGroupsUptoRow, standIns := [], harness := (true, "a13912e290b1f6a060589e00c8078a8bbacf1225ab086409b4f58f3689bc104a"), looks := true }, kinds := [], alts := [], laidByText := true, laidKinds := [.data, .data, .data, .data, .sentinel, .sentinel, .pinned], laidTests := true, laidLooks := .later }
def ParseGroupsUptoCardSaid : Prop := Claim7.holds Tryz.pinned (.plain (OpenSpec.upto parseGroupsSpec)) parseGroupsUptoCard

/-- THE SECOND FORM's CARD OF 'shyardlaw06.ParseWords'. -/
def parseWordsUptoCard : Claim7 := { stood := { row := parseWordsUptoRow, standIns := [], harness := (true, "a13912e290b1f6a060589e00c8078a8bbacf1225ab086409b4f58f3689bc104a"), looks := true }, kinds := [], alts := [], laidByText := true, laidKinds := [.data, .data, .data, .data, .sentinel, .sentinel, .pinned], laidTests := true, laidLooks := .later }
def ParseWordsUptoCardSaid : Prop := Claim7.holds Tryz.pinned (.plain (OpenSpec.upto parseWordsSpec)) parseWordsUptoCard

/-- THE SECOND FORM's CARD OF 'shyardlaw07.ShowHands'. -/
def showHandsUptoCard : Claim7 := { stood := { row := showHandsUptoRow, standIns := [], harness := (true, "a13912e290b1f6a060589e00c8078a8bbacf1225ab086409b4f58f3689bc104a"), looks := true }, kinds := [], alts := [], laidByText := true, laidKinds := [.data, .data, .data, .data, .sentinel, .sentinel, .pinned], laidTests := true, laidLooks := .later }
def ShowHandsUptoCardSaid : Prop := Claim7.holds Tryz.pinned (.plain (OpenSpec.upto showHandsSpec)) showHandsUptoCard

/-- THE SECOND FORM's CARD OF 'shyardlaw07.ShowPlain'. -/
def showPlainUptoCard : Claim7 := { stood := { row := showPlainUptoRow, standIns := [], harness := (true, "a13912e290b1f6a060589e00c8078a8bbacf1225ab086409b4f58f3689bc104a"), looks := true }, kinds := [], alts := [], laidByText := true, laidKinds := [.data, .data, .data, .data, .sentinel, .sentinel, .pinned], laidTests := true, laidLooks := .later }
def ShowPlainUptoCardSaid : Prop := Claim7.holds Tryz.pinned (.plain (OpenSpec.upto showPlainSpec)) showPlainUptoCard
end Rows
end Go.Proofs.YtomcodpgickmgaaGreatDoor
