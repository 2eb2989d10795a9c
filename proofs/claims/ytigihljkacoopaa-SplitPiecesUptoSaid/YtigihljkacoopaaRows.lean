/-
  No cell of these rows narrows 'for every input' (looked for: loops, veiled, ifaces, maps, wideKeys, modest, calm, conditions, laid).
  DERIVED. THE GIVEN ROWS OF THIS SEAT. 5 by the template 'for every input the law returns true; each argument reads behind the call as it read before'; 0 by the template 'total and deterministic' (their statements: YtigihljkacoopaaTotals.lean).
  GIVEN WITH THE SEED: the statements are not yours to turn. If you find one false, say at which input.
  Laid BY PROGRAM, IN A SANDBOX (cutbox-rows.mjs): the forced cells as the released guide's own fill.sh prints them over the translation 4fa7e8982154aaea… (all of the seat's roots in one cut). By AI agents, Wed Nov 11 2026. No macro, syntax, notation, axiom, sorry.
-/
import Derived.Test.YtigihljkacoopaaChecked
import GoSem.Claim
import GoSem.ClaimJoined
import GoSem.ClaimMapViews
import Derived.JoinedTies
import Derived.KernelRfl
namespace Go.Proofs.Ytigihljkacoopaa
/- THE CELL 'sum', in the pinned program and in every row, IS THE sha256 OF THE DUMP (.gsa) THAT YtigihljkacoopaaProg.lean LOADS. Nothing in Lean hashes anything: it is a label: what it is worth is what the hold of that sum in a sandbox is worth. -/
noncomputable def Try.pinned : Pinned := { name := "ytigihljkacoopaa", sum := "4fa7e8982154aaeaf48f2b42f402d3918a75e59431885385a777b1baece3de1c", checked := Try.checked }
namespace Rows
def none {H : Type} : Left H := { results := [], args := [] }

/-- 'shyardlaw15.SplitFields': WHATEVER THE INPUT: true; the input reads as it did. -/
def splitFieldsSpec : ChangeSpec := { name := "splitFields", fn := fun _ => fun
  | [d1, d2] => { results := [.lit (.bool true)], args := [d1, d2] }
  | _ => none }
def splitFieldsRow : OpenClaim := { program := "ytigihljkacoopaa", sum := "4fa7e8982154aaeaf48f2b42f402d3918a75e59431885385a777b1baece3de1c", func := "shyard/shyardlaw15.SplitFields", spec := "splitFields", inPlace := ["internal/bytealg.IndexByteString", "internal/abi.NoEscape"], unfollowed := true, recurses := true, apart := false }
def SplitFieldsSaid : Prop := splitFieldsRow.holds Try.pinned (OpenSpec.ofChange splitFieldsSpec)

/-- ITS FALSE NEIGHBOUR: 'it returns false'. Refute it at one input. -/
def splitFieldsWrong : ChangeSpec := { name := "splitFields", fn := fun _ => fun
  | [d1, d2] => { results := [.lit (.bool false)], args := [d1, d2] }
  | _ => none }
def SplitFieldsWrongFalsely : Prop := splitFieldsRow.holds Try.pinned (OpenSpec.ofChange splitFieldsWrong)

/-- 'shyardlaw15.SplitNothing': WHATEVER THE INPUT: true; the input reads as it did. -/
def splitNothingSpec : ChangeSpec := { name := "splitNothing", fn := fun _ => fun
  | [d1, d2] => { results := [.lit (.bool true)], args := [d1, d2] }
  | _ => none }
def splitNothingRow : OpenClaim := { program := "ytigihljkacoopaa", sum := "4fa7e8982154aaeaf48f2b42f402d3918a75e59431885385a777b1baece3de1c", func := "shyard/shyardlaw15.SplitNothing", spec := "splitNothing", inPlace := ["internal/bytealg.IndexByteString", "internal/abi.NoEscape"], unfollowed := true, recurses := true, apart := false }
def SplitNothingSaid : Prop := splitNothingRow.holds Try.pinned (OpenSpec.ofChange splitNothingSpec)

/-- ITS FALSE NEIGHBOUR: 'it returns false'. Refute it at one input. -/
def splitNothingWrong : ChangeSpec := { name := "splitNothing", fn := fun _ => fun
  | [d1, d2] => { results := [.lit (.bool false)], args := [d1, d2] }
  | _ => none }
def SplitNothingWrongFalsely : Prop := splitNothingRow.holds Try.pinned (OpenSpec.ofChange splitNothingWrong)

/-- 'shyardlaw15.SplitBlanks': WHATEVER THE INPUT: true; the input reads as it did. -/
def splitBlanksSpec : ChangeSpec := { name := "splitBlanks", fn := fun _ => fun
  | [d1, d2] => { results := [.lit (.bool true)], args := [d1, d2] }
  | _ => none }
def splitBlanksRow : OpenClaim := { program := "ytigihljkacoopaa", sum := "4fa7e8982154aaeaf48f2b42f402d3918a75e59431885385a777b1baece3de1c", func := "shyard/shyardlaw15.SplitBlanks", spec := "splitBlanks", inPlace := ["internal/bytealg.IndexByteString", "internal/abi.NoEscape"], unfollowed := true, recurses := true, apart := false }
def SplitBlanksSaid : Prop := splitBlanksRow.holds Try.pinned (OpenSpec.ofChange splitBlanksSpec)

/-- ITS FALSE NEIGHBOUR: 'it returns false'. Refute it at one input. -/
def splitBlanksWrong : ChangeSpec := { name := "splitBlanks", fn := fun _ => fun
  | [d1, d2] => { results := [.lit (.bool false)], args := [d1, d2] }
  | _ => none }
def SplitBlanksWrongFalsely : Prop := splitBlanksRow.holds Try.pinned (OpenSpec.ofChange splitBlanksWrong)

/-- 'shyardlaw15.SplitBack': WHATEVER THE INPUT: true; the input reads as it did. -/
def splitBackSpec : ChangeSpec := { name := "splitBack", fn := fun _ => fun
  | [d1, d2] => { results := [.lit (.bool true)], args := [d1, d2] }
  | _ => none }
def splitBackRow : OpenClaim := { program := "ytigihljkacoopaa", sum := "4fa7e8982154aaeaf48f2b42f402d3918a75e59431885385a777b1baece3de1c", func := "shyard/shyardlaw15.SplitBack", spec := "splitBack", inPlace := ["internal/bytealg.IndexByteString", "internal/abi.NoEscape"], unfollowed := true, recurses := true, apart := false }
def SplitBackSaid : Prop := splitBackRow.holds Try.pinned (OpenSpec.ofChange splitBackSpec)

/-- ITS FALSE NEIGHBOUR: 'it returns false'. Refute it at one input. -/
def splitBackWrong : ChangeSpec := { name := "splitBack", fn := fun _ => fun
  | [d1, d2] => { results := [.lit (.bool false)], args := [d1, d2] }
  | _ => none }
def SplitBackWrongFalsely : Prop := splitBackRow.holds Try.pinned (OpenSpec.ofChange splitBackWrong)

/-- 'shyardlaw15.SplitPieces': WHATEVER THE INPUT: true; the input reads as it did. -/
def splitPiecesSpec : ChangeSpec := { name := "splitPieces", fn := fun _ => fun
  | [d1, d2, d3] => { results := [.lit (.bool true)], args := [d1, d2, d3] }
  | _ => none }
def splitPiecesRow : OpenClaim := { program := "ytigihljkacoopaa", sum := "4fa7e8982154aaeaf48f2b42f402d3918a75e59431885385a777b1baece3de1c", func := "shyard/shyardlaw15.SplitPieces", spec := "splitPieces", inPlace := ["internal/bytealg.IndexByteString", "internal/abi.NoEscape"], unfollowed := true, recurses := true, apart := false }
def SplitPiecesSaid : Prop := splitPiecesRow.holds Try.pinned (OpenSpec.ofChange splitPiecesSpec)

/-- ITS FALSE NEIGHBOUR: 'it returns false'. Refute it at one input. -/
def splitPiecesWrong : ChangeSpec := { name := "splitPieces", fn := fun _ => fun
  | [d1, d2, d3] => { results := [.lit (.bool false)], args := [d1, d2, d3] }
  | _ => none }
def SplitPiecesWrongFalsely : Prop := splitPiecesRow.holds Try.pinned (OpenSpec.ofChange splitPiecesWrong)

/- THE SECOND FORM. 'bulk': how many values and letters a reading holds, each counted each time it is reached (what is shared counts as often as it is met; a slice's spare places count too). A statement '..UptoSaid' is the law's where the arguments, and the package variables that the reading takes, are together of bulk at most 1048576: NARROWER than '..Said'. Prove '..Said' where nothing that the law and all that it calls make is longer than what came in: it says more and counts as full. Else prove '..UptoSaid'. A law counts once. -/
mutual
def uptoBulk {H : Type} : DataW H → Nat
  | .lit (.string bytes) => bytes.length + 1
  | .lit _ => 1
  | .nil => 1
  | .ptr d => uptoBulk d + 1
  | .slice elems spare => uptoBulkAll elems + uptoBulkAll spare + 1
  | .agg parts => uptoBulkAll parts + 1
  | .iface _ d => uptoBulk d + 1
  | .map entries => uptoBulkEntries entries + 1
  | .held _ => 1
def uptoBulkAll {H : Type} : List (DataW H) → Nat
  | [] => 0
  | d :: r => uptoBulk d + uptoBulkAll r
def uptoBulkEntries {H : Type} : List (Lit × DataW H) → Nat
  | [] => 0
  | x :: r => uptoBulkEntry x + uptoBulkEntries r
def uptoBulkEntry {H : Type} : Lit × DataW H → Nat
  | (.string bytes, d) => bytes.length + uptoBulk d + 1
  | (_, d) => uptoBulk d + 1
 end
def uptoSmall : (H : Type) → List (DataW H) → Bool := fun _ ds => decide (uptoBulkAll ds ≤ 1048576)
def OpenSpec.upto (s : _root_.Go.ChangeSpec) : _root_.Go.OpenSpec := { _root_.Go.OpenSpec.ofChange s with cond := some uptoSmall }

/-- 'shyardlaw15.SplitFields', WHERE WHAT IT READS IS OF BULK AT MOST 1048576: true; the input reads as it did. -/
def splitFieldsUptoRow : OpenClaim := { program := "ytigihljkacoopaa", sum := "4fa7e8982154aaeaf48f2b42f402d3918a75e59431885385a777b1baece3de1c", func := "shyard/shyardlaw15.SplitFields", spec := "splitFields", inPlace := ["internal/bytealg.IndexByteString", "internal/abi.NoEscape"], unfollowed := true, recurses := true, apart := false, narrowed := true }
def SplitFieldsUptoSaid : Prop := splitFieldsUptoRow.holds Try.pinned (OpenSpec.upto splitFieldsSpec)

/-- 'shyardlaw15.SplitNothing', WHERE WHAT IT READS IS OF BULK AT MOST 1048576: true; the input reads as it did. -/
def splitNothingUptoRow : OpenClaim := { program := "ytigihljkacoopaa", sum := "4fa7e8982154aaeaf48f2b42f402d3918a75e59431885385a777b1baece3de1c", func := "shyard/shyardlaw15.SplitNothing", spec := "splitNothing", inPlace := ["internal/bytealg.IndexByteString", "internal/abi.NoEscape"], unfollowed := true, recurses := true, apart := false, narrowed := true }
def SplitNothingUptoSaid : Prop := splitNothingUptoRow.holds Try.pinned (OpenSpec.upto splitNothingSpec)

/-- 'shyardlaw15.SplitBlanks', WHERE WHAT IT READS IS OF BULK AT MOST 1048576: true; the input reads as it did. -/
def splitBlanksUptoRow : OpenClaim := { program := "ytigihljkacoopaa", sum := "4fa7e8982154aaeaf48f2b42f402d3918a75e59431885385a777b1baece3de1c", func := "shyard/shyardlaw15.SplitBlanks", spec := "splitBlanks", inPlace := ["internal/bytealg.IndexByteString", "internal/abi.NoEscape"], unfollowed := true, recurses := true, apart := false, narrowed := true }
def SplitBlanksUptoSaid : Prop := splitBlanksUptoRow.holds Try.pinned (OpenSpec.upto splitBlanksSpec)

/-- 'shyardlaw15.SplitBack', WHERE WHAT IT READS IS OF BULK AT MOST 1048576: true; the input reads as it did. -/
def splitBackUptoRow : OpenClaim := { program := "ytigihljkacoopaa", sum := "4fa7e8982154aaeaf48f2b42f402d3918a75e59431885385a777b1baece3de1c", func := "shyard/shyardlaw15.SplitBack", spec := "splitBack", inPlace := ["internal/bytealg.IndexByteString", "internal/abi.NoEscape"], unfollowed := true, recurses := true, apart := false, narrowed := true }
def SplitBackUptoSaid : Prop := splitBackUptoRow.holds Try.pinned (OpenSpec.upto splitBackSpec)

/-- 'shyardlaw15.SplitPieces', WHERE WHAT IT READS IS OF BULK AT MOST 1048576: true; the input reads as it did. -/
def splitPiecesUptoRow : OpenClaim := { program := "ytigihljkacoopaa", sum := "4fa7e8982154aaeaf48f2b42f402d3918a75e59431885385a777b1baece3de1c", func := "shyard/shyardlaw15.SplitPieces", spec := "splitPieces", inPlace := ["internal/bytealg.IndexByteString", "internal/abi.NoEscape"], unfollowed := true, recurses := true, apart := false, narrowed := true }
def SplitPiecesUptoSaid : Prop := splitPiecesUptoRow.holds Try.pinned (OpenSpec.upto splitPiecesSpec)

end Rows
end Go.Proofs.Ytigihljkacoopaa
