/-
  NARROWER THAN 'FOR EVERY INPUT', by the rows' own cells (each row's printed sentence says how): ArithParens: laid · ArithSums: laid · ArithNames: laid · ArithChoices: laid.
  DERIVED. THE GIVEN ROWS OF THIS SEAT. 4 by the template 'for every input the law returns true; each argument reads behind the call as it read before'; 0 by the template 'total and deterministic' (their statements: YtjdcefhllbfacaaDoorTotals.lean).
  GIVEN WITH THE SEED: the statements are not yours to turn. If you find one false, say at which input.
  Laid BY PROGRAM, IN A SANDBOX (cutbox-rows.mjs): the forced cells as the released guide's own fill.sh prints them over the translation c6b8af7ee2237f3d… (all of the seat's roots in one cut). By AI agents, Wed Nov 11 2026. No macro, syntax, notation, axiom, sorry.
-/
import Derived.Test.YtjdcefhllbfacaaDoorChecked
import GoSem.PinnedTables
import GoSem.Claim
import GoSem.ClaimJoined
import GoSem.ClaimMapViews
import Derived.JoinedTies
import Derived.KernelRfl
namespace Go.Proofs.YtjdcefhllbfacaaDoor
/- THE CELL 'sum', in the pinned program and in every row, IS THE sha256 OF THE DUMP (.gsa) THAT YtjdcefhllbfacaaDoorProg.lean LOADS. Nothing in Lean hashes anything: it is a label: what it is worth is what the hold of that sum in a sandbox is worth. -/
noncomputable def Tryd.pinned : Pinned := { name := "ytjdcefhllbfacaadoor", sum := "c6b8af7ee2237f3d30310155895dcffbe8bbe51e731b4fd05f5000ea784d05aa", checked := Tryd.checked }
namespace Rows
def none {H : Type} : Left H := { results := [], args := [] }

/- WHAT THE LISTED PACKAGE-LEVEL VARIABLES READ AS WHEN THE CALL BEGINS. Each datum BY PROGRAM (the guide's laid-datum.mjs) off the statement by which the dump's own 'gosem.cut.vars' lays the variable. In a bare row this is a premise. The card (YtjdcefhllbfacaaDoorCards.lean) ties it to the program's text. -/
def laid_unicode_utf8_acceptRanges {H : Type} : DataW H := .agg [.agg [.lit (.int .u8 128), .lit (.int .u8 191)], .agg [.lit (.int .u8 160), .lit (.int .u8 191)], .agg [.lit (.int .u8 128), .lit (.int .u8 159)], .agg [.lit (.int .u8 144), .lit (.int .u8 191)], .agg [.lit (.int .u8 128), .lit (.int .u8 143)], .agg [.lit (.int .u8 0), .lit (.int .u8 0)], .agg [.lit (.int .u8 0), .lit (.int .u8 0)], .agg [.lit (.int .u8 0), .lit (.int .u8 0)], .agg [.lit (.int .u8 0), .lit (.int .u8 0)], .agg [.lit (.int .u8 0), .lit (.int .u8 0)], .agg [.lit (.int .u8 0), .lit (.int .u8 0)], .agg [.lit (.int .u8 0), .lit (.int .u8 0)], .agg [.lit (.int .u8 0), .lit (.int .u8 0)], .agg [.lit (.int .u8 0), .lit (.int .u8 0)], .agg [.lit (.int .u8 0), .lit (.int .u8 0)], .agg [.lit (.int .u8 0), .lit (.int .u8 0)]]
/-- One of Go's own tables, pinned by name: the form's constant. -/
def laid_unicode_utf8_first : DataW Unit := Go.Pinned.utf8First

/-- 'shyardlaw03.ArithParens': WHATEVER THE INPUT: true; the input reads as it did. -/
def arithParensSpec : ChangeSpec := { name := "arithParens", fn := fun _ => fun
  | [d1, d2] => { results := [.lit (.bool true)], args := [d1, d2] }
  | _ => none }
def arithParensRow : OpenClaim := { program := "ytjdcefhllbfacaadoor", sum := "c6b8af7ee2237f3d30310155895dcffbe8bbe51e731b4fd05f5000ea784d05aa", func := "shyard/shyardlaw03.ArithParens", spec := "arithParens", inPlace := ["internal/bytealg.IndexByteString", "internal/bytealg.IndexString"], unfollowed := true, recurses := true, named := ["unicode/utf8.first", "unicode/utf8.acceptRanges", "internal/bytealg.MaxLen"], apart := false, laid := [("unicode/utf8.acceptRanges", laid_unicode_utf8_acceptRanges), ("unicode/utf8.first", laid_unicode_utf8_first)] }
def ArithParensSaid : Prop := arithParensRow.holds Tryd.pinned (OpenSpec.ofChange arithParensSpec)

/-- ITS FALSE NEIGHBOUR: 'it returns false'. Refute it at one input. -/
def arithParensWrong : ChangeSpec := { name := "arithParens", fn := fun _ => fun
  | [d1, d2] => { results := [.lit (.bool false)], args := [d1, d2] }
  | _ => none }
def ArithParensWrongFalsely : Prop := arithParensRow.holds Tryd.pinned (OpenSpec.ofChange arithParensWrong)

/-- 'shyardlaw03.ArithSums': WHATEVER THE INPUT: true; the input reads as it did. -/
def arithSumsSpec : ChangeSpec := { name := "arithSums", fn := fun _ => fun
  | [d1, d2] => { results := [.lit (.bool true)], args := [d1, d2] }
  | _ => none }
def arithSumsRow : OpenClaim := { program := "ytjdcefhllbfacaadoor", sum := "c6b8af7ee2237f3d30310155895dcffbe8bbe51e731b4fd05f5000ea784d05aa", func := "shyard/shyardlaw03.ArithSums", spec := "arithSums", inPlace := ["internal/bytealg.IndexByteString", "internal/bytealg.IndexString"], unfollowed := true, recurses := true, named := ["unicode/utf8.first", "unicode/utf8.acceptRanges", "internal/bytealg.MaxLen"], apart := false, laid := [("unicode/utf8.acceptRanges", laid_unicode_utf8_acceptRanges), ("unicode/utf8.first", laid_unicode_utf8_first)] }
def ArithSumsSaid : Prop := arithSumsRow.holds Tryd.pinned (OpenSpec.ofChange arithSumsSpec)

/-- ITS FALSE NEIGHBOUR: 'it returns false'. Refute it at one input. -/
def arithSumsWrong : ChangeSpec := { name := "arithSums", fn := fun _ => fun
  | [d1, d2] => { results := [.lit (.bool false)], args := [d1, d2] }
  | _ => none }
def ArithSumsWrongFalsely : Prop := arithSumsRow.holds Tryd.pinned (OpenSpec.ofChange arithSumsWrong)

/-- 'shyardlaw03.ArithNames': WHATEVER THE INPUT: true; the input reads as it did. -/
def arithNamesSpec : ChangeSpec := { name := "arithNames", fn := fun _ => fun
  | [d1, d2] => { results := [.lit (.bool true)], args := [d1, d2] }
  | _ => none }
def arithNamesRow : OpenClaim := { program := "ytjdcefhllbfacaadoor", sum := "c6b8af7ee2237f3d30310155895dcffbe8bbe51e731b4fd05f5000ea784d05aa", func := "shyard/shyardlaw03.ArithNames", spec := "arithNames", inPlace := ["internal/bytealg.IndexByteString", "internal/bytealg.IndexString"], unfollowed := true, recurses := true, named := ["unicode/utf8.first", "unicode/utf8.acceptRanges", "internal/bytealg.MaxLen"], apart := false, laid := [("unicode/utf8.acceptRanges", laid_unicode_utf8_acceptRanges), ("unicode/utf8.first", laid_unicode_utf8_first)] }
def ArithNamesSaid : Prop := arithNamesRow.holds Tryd.pinned (OpenSpec.ofChange arithNamesSpec)

/-- ITS FALSE NEIGHBOUR: 'it returns false'. Refute it at one input. -/
def arithNamesWrong : ChangeSpec := { name := "arithNames", fn := fun _ => fun
  | [d1, d2] => { results := [.lit (.bool false)], args := [d1, d2] }
  | _ => none }
def ArithNamesWrongFalsely : Prop := arithNamesRow.holds Tryd.pinned (OpenSpec.ofChange arithNamesWrong)

/-- 'shyardlaw03.ArithChoices': WHATEVER THE INPUT: true; the input reads as it did. -/
def arithChoicesSpec : ChangeSpec := { name := "arithChoices", fn := fun _ => fun
  | [d1, d2, d3] => { results := [.lit (.bool true)], args := [d1, d2, d3] }
  | _ => none }
def arithChoicesRow : OpenClaim := { program := "ytjdcefhllbfacaadoor", sum := "c6b8af7ee2237f3d30310155895dcffbe8bbe51e731b4fd05f5000ea784d05aa", func := "shyard/shyardlaw03.ArithChoices", spec := "arithChoices", inPlace := ["internal/bytealg.IndexByteString", "internal/bytealg.IndexString"], unfollowed := true, recurses := true, named := ["unicode/utf8.first", "unicode/utf8.acceptRanges", "internal/bytealg.MaxLen"], apart := false, laid := [("unicode/utf8.acceptRanges", laid_unicode_utf8_acceptRanges), ("unicode/utf8.first", laid_unicode_utf8_first)] }
def ArithChoicesSaid : Prop := arithChoicesRow.holds Tryd.pinned (OpenSpec.ofChange arithChoicesSpec)

/-- ITS FALSE NEIGHBOUR: 'it returns false'. Refute it at one input. -/
def arithChoicesWrong : ChangeSpec := { name := "arithChoices", fn := fun _ => fun
  | [d1, d2, d3] => { results := [.lit (.bool false)], args := [d1, d2, d3] }
  | _ => none }
def ArithChoicesWrongFalsely : Prop := arithChoicesRow.holds Tryd.pinned (OpenSpec.ofChange arithChoicesWrong)

/- THE SECOND FORM. 'bulk': how many values and letters a reading holds, each counted each time it is reached (what is shared counts as often as it is met; a slice's spare places count too). A statement '..UptoSaid' is the law's where the arguments, and the package variables that the reading takes, are together of bulk at most 1048576: NARROWER than '..Said'. Prove '..Said' where nothing that the law and all that it calls make is longer than what came in: it says more and counts as full. Else prove '..UptoSaid'. A law counts once. -/
mutual
def uptoBulk {H : Type} : DataW H → Nat
  | .lit (.string bytes) => bytes.length + 1
  | .lit _ => 1
  | .nil => 1
  | .ptr d => uptoBulk d + 1
  | .slice elems spare => uptoBulkAll elems + uptoBulkAll spare + 1
  | .agg parts => uptoBulkAll parts + 1
  | .iface _ d => uptoBulk d + 1
  | .map entries => uptoBulkEntries entries + 1
  | .held _ => 1
def uptoBulkAll {H : Type} : List (DataW H) → Nat
  | [] => 0
  | d :: r => uptoBulk d + uptoBulkAll r
def uptoBulkEntries {H : Type} : List (Lit × DataW H) → Nat
  | [] => 0
  | x :: r => uptoBulkEntry x + uptoBulkEntries r
def uptoBulkEntry {H : Type} : Lit × DataW H → Nat
  | (.string bytes, d) => bytes.length + uptoBulk d + 1
  | (_, d) => uptoBulk d + 1
 end
def uptoSmall : (H : Type) → List (DataW H) → Bool := fun _ ds => decide (uptoBulkAll ds ≤ 1048576)
def OpenSpec.upto (s : _root_.Go.ChangeSpec) : _root_.Go.OpenSpec := { _root_.Go.OpenSpec.ofChange s with cond := some uptoSmall }

/-- 'shyardlaw03.ArithParens', WHERE WHAT IT READS IS OF BULK AT MOST 1048576: true; the input reads as it did. -/
def arithParensUptoRow : OpenClaim := { program := "ytjdcefhllbfacaadoor", sum := "c6b8af7ee2237f3d30310155895dcffbe8bbe51e731b4fd05f5000ea784d05aa", func := "shyard/shyardlaw03.ArithParens", spec := "arithParens", inPlace := ["internal/bytealg.IndexByteString", "internal/bytealg.IndexString"], unfollowed := true, recurses := true, named := ["unicode/utf8.first", "unicode/utf8.acceptRanges", "internal/bytealg.MaxLen"], apart := false, laid := [("unicode/utf8.acceptRanges", laid_unicode_utf8_acceptRanges), ("unicode/utf8.first", laid_unicode_utf8_first)], narrowed := true }
def ArithParensUptoSaid : Prop := arithParensUptoRow.holds Tryd.pinned (OpenSpec.upto arithParensSpec)

/-- 'shyardlaw03.ArithSums', WHERE WHAT IT READS IS OF BULK AT MOST 1048576: true; the input reads as it did. -/
def arithSumsUptoRow : OpenClaim := { program := "ytjdcefhllbfacaadoor", sum := "c6b8af7ee2237f3d30310155895dcffbe8bbe51e731b4fd05f5000ea784d05aa", func := "shyard/shyardlaw03.ArithSums", spec := "arithSums", inPlace := ["internal/bytealg.IndexByteString", "internal/bytealg.IndexString"], unfollowed := true, recurses := true, named := ["unicode/utf8.first", "unicode/utf8.acceptRanges", "internal/bytealg.MaxLen"], apart := false, laid := [("unicode/utf8.acceptRanges", laid_unicode_utf8_acceptRanges), ("unicode/utf8.first", laid_unicode_utf8_first)], narrowed := true }
def ArithSumsUptoSaid : Prop := arithSumsUptoRow.holds Tryd.pinned (OpenSpec.upto arithSumsSpec)

/-- 'shyardlaw03.ArithNames', WHERE WHAT IT READS IS OF BULK AT MOST 1048576: true; the input reads as it did. -/
def arithNamesUptoRow : OpenClaim := { program := "ytjdcefhllbfacaadoor", sum := "c6b8af7ee2237f3d30310155895dcffbe8bbe51e731b4fd05f5000ea784d05aa", func := "shyard/shyardlaw03.ArithNames", spec := "arithNames", inPlace := ["internal/bytealg.IndexByteString", "internal/bytealg.IndexString"], unfollowed := true, recurses := true, named := ["unicode/utf8.first", "unicode/utf8.acceptRanges", "internal/bytealg.MaxLen"], apart := false, laid := [("unicode/utf8.acceptRanges", laid_unicode_utf8_acceptRanges), ("unicode/utf8.first", laid_unicode_utf8_first)], narrowed := true }
def ArithNamesUptoSaid : Prop := arithNamesUptoRow.holds Tryd.pinned (OpenSpec.upto arithNamesSpec)

/-- 'shyardlaw03.ArithChoices', WHERE WHAT IT READS IS OF BULK AT MOST 1048576: true; the input reads as it did. -/
def arithChoicesUptoRow : OpenClaim := { program := "ytjdcefhllbfacaadoor", sum := "c6b8af7ee2237f3d30310155895dcffbe8bbe51e731b4fd05f5000ea784d05aa", func := "shyard/shyardlaw03.ArithChoices", spec := "arithChoices", inPlace := ["internal/bytealg.IndexByteString", "internal/bytealg.IndexString"], unfollowed := true, recurses := true, named := ["unicode/utf8.first", "unicode/utf8.acceptRanges", "internal/bytealg.MaxLen"], apart := false, laid := [("unicode/utf8.acceptRanges", laid_unicode_utf8_acceptRanges), ("unicode/utf8.first", laid_unicode_utf8_first)], narrowed := true }
def ArithChoicesUptoSaid : Prop := arithChoicesUptoRow.holds Tryd.pinned (OpenSpec.upto arithChoicesSpec)

end Rows
end Go.Proofs.YtjdcefhllbfacaaDoor
