/-
  DERIVED. GIVEN WITH THE SEED: THE CARDS: each row of YtjdcefhllbfacaaDoorRows.lean that lists a variable, with what it lists TIED to the program's text (the seventh form; the later family's looks); each row that meets fmt, with fmt's text TOLD by the authors' own Lean function (tested against real Go, not proved from fmt's source: count such statements apart). THE CARD IS WHAT COUNTS. Prove the row's statement (the work); the ties are given (YtjdcefhllbfacaaDoorTie.lean); close each card by the builder's one call (the guide's Derived/Test/ToyasCard.lean, 'card_holds'). Laid BY PROGRAM, IN A SANDBOX (cutbox-door.mjs). By AI agents, Wed Nov 11 2026. No macro, syntax, notation, axiom, sorry.
-/
import Derived.Test.YtjdcefhllbfacaaDoorRows
import GoSem.ClaimSeven
namespace Go.Proofs.YtjdcefhllbfacaaDoor
namespace Rows

/-- THE TIED CARD OF 'shyardlaw03.ArithParens'. -/
def arithParensCard : Claim7 := { stood := { row := arithParensRow, standIns := [], harness := (true, "f3e58b47b434ee33fd5bda85806fb4c5e29439179b80a53df4a221e2355842e6"), looks := false }, kinds := [], alts := [], laidByText := true, laidKinds := [.data, .pinned], laidTests := true, laidLooks := .later }
def ArithParensCardSaid : Prop := Claim7.holds Tryd.pinned (.plain (OpenSpec.ofChange arithParensSpec)) arithParensCard

/-- THE TIED CARD OF 'shyardlaw03.ArithSums'. -/
def arithSumsCard : Claim7 := { stood := { row := arithSumsRow, standIns := [], harness := (true, "f3e58b47b434ee33fd5bda85806fb4c5e29439179b80a53df4a221e2355842e6"), looks := false }, kinds := [], alts := [], laidByText := true, laidKinds := [.data, .pinned], laidTests := true, laidLooks := .later }
def ArithSumsCardSaid : Prop := Claim7.holds Tryd.pinned (.plain (OpenSpec.ofChange arithSumsSpec)) arithSumsCard

/-- THE TIED CARD OF 'shyardlaw03.ArithNames'. -/
def arithNamesCard : Claim7 := { stood := { row := arithNamesRow, standIns := [], harness := (true, "f3e58b47b434ee33fd5bda85806fb4c5e29439179b80a53df4a221e2355842e6"), looks := false }, kinds := [], alts := [], laidByText := true, laidKinds := [.data, .pinned], laidTests := true, laidLooks := .later }
def ArithNamesCardSaid : Prop := Claim7.holds Tryd.pinned (.plain (OpenSpec.ofChange arithNamesSpec)) arithNamesCard

/-- THE TIED CARD OF 'shyardlaw03.ArithChoices'. -/
def arithChoicesCard : Claim7 := { stood := { row := arithChoicesRow, standIns := [], harness := (true, "f3e58b47b434ee33fd5bda85806fb4c5e29439179b80a53df4a221e2355842e6"), looks := false }, kinds := [], alts := [], laidByText := true, laidKinds := [.data, .pinned], laidTests := true, laidLooks := .later }
def ArithChoicesCardSaid : Prop := Claim7.holds Tryd.pinned (.plain (OpenSpec.ofChange arithChoicesSpec)) arithChoicesCard

/-- THE SECOND FORM's CARD OF 'shyardlaw03.ArithParens'. -/
def arithParensUptoCard : Claim7 := { stood := { row := arithParensUptoRow, standIns := [], harness := (true, "f3e58b47b434ee33fd5bda85806fb4c5e29439179b80a53df4a221e2355842e6"), looks := false }, kinds := [], alts := [], laidByText := true, laidKinds := [.data, .pinned], laidTests := true, laidLooks := .later }
def ArithParensUptoCardSaid : Prop := Claim7.holds Tryd.pinned (.plain (OpenSpec.upto arithParensSpec)) arithParensUptoCard

/-- THE SECOND FORM's CARD OF 'shyardlaw03.ArithSums'. -/
def arithSumsUptoCard : Claim7 := { stood := { row := arithSumsUptoRow, standIns := [], harness := (true, "f3e58b47b434ee33fd5bda85806fb4c5e29439179b80a53df4a221e2355842e6"), looks := false }, kinds := [], alts := [], laidByText := true, laidKinds := [.data, .pinned], laidTests := true, laidLooks := .later }
def ArithSumsUptoCardSaid : Prop := Claim7.holds Tryd.pinned (.plain (OpenSpec.upto arithSumsSpec)) arithSumsUptoCard

/-- THE SECOND FORM's CARD OF 'shyardlaw03.ArithNames'. -/
def arithNamesUptoCard : Claim7 := { stood := { row := arithNamesUptoRow, standIns := [], harness := (true, "f3e58b47b434ee33fd5bda85806fb4c5e29439179b80a53df4a221e2355842e6"), looks := false }, kinds := [], alts := [], laidByText := true, laidKinds := [.data, .pinned], laidTests := true, laidLooks := .later }
def ArithNamesUptoCardSaid : Prop := Claim7.holds Tryd.pinned (.plain (OpenSpec.upto arithNamesSpec)) arithNamesUptoCard

/-- THE SECOND FORM's CARD OF 'shyardlaw03.ArithChoices'. -/
def arithChoicesUptoCard : Claim7 := { stood := { row := arithChoicesUptoRow, standIns := [], harness := (true, "f3e58b47b434ee33fd5bda85806fb4c5e29439179b80a53df4a221e2355842e6"), looks := false }, kinds := [], alts := [], laidByText := true, laidKinds := [.data, .pinned], laidTests := true, laidLooks := .later }
def ArithChoicesUptoCardSaid : Prop := Claim7.holds Tryd.pinned (.plain (OpenSpec.upto arithChoicesSpec)) arithChoicesUptoCard
end Rows
end Go.Proofs.YtjdcefhllbfacaaDoor
