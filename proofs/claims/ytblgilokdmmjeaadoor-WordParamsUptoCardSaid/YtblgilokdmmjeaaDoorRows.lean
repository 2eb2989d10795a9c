/-
  NARROWER THAN 'FOR EVERY INPUT', by the rows' own cells (each row's printed sentence says how): WordWalks: laid · WordAssigns: laid · WordDoubles: laid · WordQuotes: laid · WordParams: laid.
  DERIVED. THE GIVEN ROWS OF THIS SEAT. 5 by the template 'for every input the law returns true; each argument reads behind the call as it read before'; 0 by the template 'total and deterministic' (their statements: YtblgilokdmmjeaaDoorTotals.lean).
  GIVEN WITH THE SEED: the statements are not yours to turn. If you find one false, say at which input.
  Laid BY PROGRAM, IN A SANDBOX (cutbox-rows.mjs): the forced cells as the released guide's own fill.sh prints them over the translation fae04b2ca66f1b4b… (all of the seat's roots in one cut). By AI agents, Wed Nov 11 2026. No macro, syntax, notation, axiom, sorry.
-/
import Derived.Test.YtblgilokdmmjeaaDoorChecked
import GoSem.PinnedTables
import GoSem.Claim
import GoSem.ClaimJoined
import GoSem.ClaimMapViews
import Derived.JoinedTies
import Derived.KernelRfl
namespace Go.Proofs.YtblgilokdmmjeaaDoor
/- THE CELL 'sum', in the pinned program and in every row, IS THE sha256 OF THE DUMP (.gsa) THAT YtblgilokdmmjeaaDoorProg.lean LOADS. Nothing in Lean hashes anything: it is a label: what it is worth is what the hold of that sum in a sandbox is worth. -/
noncomputable def Tryd.pinned : Pinned := { name := "ytblgilokdmmjeaadoor", sum := "fae04b2ca66f1b4bf60a5b4a30a7f633d88231e1d4a6ad1c52ff8fb00a7512a1", checked := Tryd.checked }
namespace Rows
def none {H : Type} : Left H := { results := [], args := [] }

/- WHAT THE LISTED PACKAGE-LEVEL VARIABLES READ AS WHEN THE CALL BEGINS. Each datum BY PROGRAM (the guide's laid-datum.mjs) off the statement by which the dump's own 'gosem.cut.vars' lays the variable. In a bare row this is a premise. The card (YtblgilokdmmjeaaDoorCards.lean) ties it to the program's text. -/
def laid_unicode_utf8_acceptRanges {H : Type} : DataW H := .agg [.agg [.lit (.int .u8 128), .lit (.int .u8 191)], .agg [.lit (.int .u8 160), .lit (.int .u8 191)], .agg [.lit (.int .u8 128), .lit (.int .u8 159)], .agg [.lit (.int .u8 144), .lit (.int .u8 191)], .agg [.lit (.int .u8 128), .lit (.int .u8 143)], .agg [.lit (.int .u8 0), .lit (.int .u8 0)], .agg [.lit (.int .u8 0), .lit (.int .u8 0)], .agg [.lit (.int .u8 0), .lit (.int .u8 0)], .agg [.lit (.int .u8 0), .lit (.int .u8 0)], .agg [.lit (.int .u8 0), .lit (.int .u8 0)], .agg [.lit (.int .u8 0), .lit (.int .u8 0)], .agg [.lit (.int .u8 0), .lit (.int .u8 0)], .agg [.lit (.int .u8 0), .lit (.int .u8 0)], .agg [.lit (.int .u8 0), .lit (.int .u8 0)], .agg [.lit (.int .u8 0), .lit (.int .u8 0)], .agg [.lit (.int .u8 0), .lit (.int .u8 0)]]
/-- One of Go's own tables, pinned by name: the form's constant. -/
def laid_unicode_utf8_first : DataW Unit := Go.Pinned.utf8First

/-- 'shyardlaw05.WordWalks': WHATEVER THE INPUT: true; the input reads as it did. -/
def wordWalksSpec : ChangeSpec := { name := "wordWalks", fn := fun _ => fun
  | [d1, d2, d3] => { results := [.lit (.bool true)], args := [d1, d2, d3] }
  | _ => none }
def wordWalksRow : OpenClaim := { program := "ytblgilokdmmjeaadoor", sum := "fae04b2ca66f1b4bf60a5b4a30a7f633d88231e1d4a6ad1c52ff8fb00a7512a1", func := "shyard/shyardlaw05.WordWalks", spec := "wordWalks", inPlace := ["internal/bytealg.IndexByteString", "internal/bytealg.IndexString"], unfollowed := true, recurses := true, named := ["unicode/utf8.first", "unicode/utf8.acceptRanges", "internal/bytealg.MaxLen"], apart := false, laid := [("unicode/utf8.acceptRanges", laid_unicode_utf8_acceptRanges), ("unicode/utf8.first", laid_unicode_utf8_first)] }
def WordWalksSaid : Prop := wordWalksRow.holds Tryd.pinned (OpenSpec.ofChange wordWalksSpec)

/-- ITS FALSE NEIGHBOUR: 'it returns false'. Refute it at one input. -/
def wordWalksWrong : ChangeSpec := { name := "wordWalks", fn := fun _ => fun
  | [d1, d2, d3] => { results := [.lit (.bool false)], args := [d1, d2, d3] }
  | _ => none }
def WordWalksWrongFalsely : Prop := wordWalksRow.holds Tryd.pinned (OpenSpec.ofChange wordWalksWrong)

/-- 'shyardlaw05.WordAssigns': WHATEVER THE INPUT: true; the input reads as it did. -/
def wordAssignsSpec : ChangeSpec := { name := "wordAssigns", fn := fun _ => fun
  | [d] => { results := [.lit (.bool true)], args := [d] }
  | _ => none }
def wordAssignsRow : OpenClaim := { program := "ytblgilokdmmjeaadoor", sum := "fae04b2ca66f1b4bf60a5b4a30a7f633d88231e1d4a6ad1c52ff8fb00a7512a1", func := "shyard/shyardlaw05.WordAssigns", spec := "wordAssigns", inPlace := ["internal/bytealg.IndexByteString", "internal/bytealg.IndexString"], recurses := true, named := ["unicode/utf8.first", "unicode/utf8.acceptRanges", "internal/bytealg.MaxLen"], apart := false, laid := [("unicode/utf8.acceptRanges", laid_unicode_utf8_acceptRanges), ("unicode/utf8.first", laid_unicode_utf8_first)] }
def WordAssignsSaid : Prop := wordAssignsRow.holds Tryd.pinned (OpenSpec.ofChange wordAssignsSpec)

/-- ITS FALSE NEIGHBOUR: 'it returns false'. Refute it at one input. -/
def wordAssignsWrong : ChangeSpec := { name := "wordAssigns", fn := fun _ => fun
  | [d] => { results := [.lit (.bool false)], args := [d] }
  | _ => none }
def WordAssignsWrongFalsely : Prop := wordAssignsRow.holds Tryd.pinned (OpenSpec.ofChange wordAssignsWrong)

/-- 'shyardlaw05.WordDoubles': WHATEVER THE INPUT: true; the input reads as it did. -/
def wordDoublesSpec : ChangeSpec := { name := "wordDoubles", fn := fun _ => fun
  | [d] => { results := [.lit (.bool true)], args := [d] }
  | _ => none }
def wordDoublesRow : OpenClaim := { program := "ytblgilokdmmjeaadoor", sum := "fae04b2ca66f1b4bf60a5b4a30a7f633d88231e1d4a6ad1c52ff8fb00a7512a1", func := "shyard/shyardlaw05.WordDoubles", spec := "wordDoubles", inPlace := ["internal/bytealg.IndexByteString", "internal/bytealg.IndexString", "internal/abi.NoEscape"], recurses := true, named := ["unicode/utf8.first", "unicode/utf8.acceptRanges", "internal/bytealg.MaxLen"], apart := false, laid := [("unicode/utf8.acceptRanges", laid_unicode_utf8_acceptRanges), ("unicode/utf8.first", laid_unicode_utf8_first)] }
def WordDoublesSaid : Prop := wordDoublesRow.holds Tryd.pinned (OpenSpec.ofChange wordDoublesSpec)

/-- ITS FALSE NEIGHBOUR: 'it returns false'. Refute it at one input. -/
def wordDoublesWrong : ChangeSpec := { name := "wordDoubles", fn := fun _ => fun
  | [d] => { results := [.lit (.bool false)], args := [d] }
  | _ => none }
def WordDoublesWrongFalsely : Prop := wordDoublesRow.holds Tryd.pinned (OpenSpec.ofChange wordDoublesWrong)

/-- 'shyardlaw05.WordQuotes': WHATEVER THE INPUT: true; the input reads as it did. -/
def wordQuotesSpec : ChangeSpec := { name := "wordQuotes", fn := fun _ => fun
  | [d] => { results := [.lit (.bool true)], args := [d] }
  | _ => none }
def wordQuotesRow : OpenClaim := { program := "ytblgilokdmmjeaadoor", sum := "fae04b2ca66f1b4bf60a5b4a30a7f633d88231e1d4a6ad1c52ff8fb00a7512a1", func := "shyard/shyardlaw05.WordQuotes", spec := "wordQuotes", inPlace := ["internal/bytealg.IndexByteString", "internal/bytealg.IndexString", "internal/bytealg.CountString", "internal/abi.NoEscape", "internal/bytealg.MakeNoZero"], unfollowed := true, recurses := true, named := ["unicode/utf8.first", "unicode/utf8.acceptRanges", "internal/bytealg.MaxLen"], apart := false, laid := [("unicode/utf8.acceptRanges", laid_unicode_utf8_acceptRanges), ("unicode/utf8.first", laid_unicode_utf8_first)] }
def WordQuotesSaid : Prop := wordQuotesRow.holds Tryd.pinned (OpenSpec.ofChange wordQuotesSpec)

/-- ITS FALSE NEIGHBOUR: 'it returns false'. Refute it at one input. -/
def wordQuotesWrong : ChangeSpec := { name := "wordQuotes", fn := fun _ => fun
  | [d] => { results := [.lit (.bool false)], args := [d] }
  | _ => none }
def WordQuotesWrongFalsely : Prop := wordQuotesRow.holds Tryd.pinned (OpenSpec.ofChange wordQuotesWrong)

/-- 'shyardlaw05.WordParams': WHATEVER THE INPUT: true; the input reads as it did. -/
def wordParamsSpec : ChangeSpec := { name := "wordParams", fn := fun _ => fun
  | [d1, d2, d3] => { results := [.lit (.bool true)], args := [d1, d2, d3] }
  | _ => none }
def wordParamsRow : OpenClaim := { program := "ytblgilokdmmjeaadoor", sum := "fae04b2ca66f1b4bf60a5b4a30a7f633d88231e1d4a6ad1c52ff8fb00a7512a1", func := "shyard/shyardlaw05.WordParams", spec := "wordParams", inPlace := ["internal/bytealg.IndexByteString", "internal/bytealg.IndexString", "internal/bytealg.CountString", "internal/abi.NoEscape", "internal/bytealg.MakeNoZero"], unfollowed := true, recurses := true, named := ["unicode/utf8.first", "unicode/utf8.acceptRanges", "internal/bytealg.MaxLen"], apart := false, laid := [("unicode/utf8.acceptRanges", laid_unicode_utf8_acceptRanges), ("unicode/utf8.first", laid_unicode_utf8_first)] }
def WordParamsSaid : Prop := wordParamsRow.holds Tryd.pinned (OpenSpec.ofChange wordParamsSpec)

/-- ITS FALSE NEIGHBOUR: 'it returns false'. Refute it at one input. -/
def wordParamsWrong : ChangeSpec := { name := "wordParams", fn := fun _ => fun
  | [d1, d2, d3] => { results := [.lit (.bool false)], args := [d1, d2, d3] }
  | _ => none }
def WordParamsWrongFalsely : Prop := wordParamsRow.holds Tryd.pinned (OpenSpec.ofChange wordParamsWrong)

/- THE SECOND FORM. 'bulk': how many values and letters a reading holds, each counted each time it is reached (what is shared counts as often as it is met; a slice's spare places count too). A statement '..UptoSaid' is the law's where the arguments, and the package variables that the reading takes, are together of bulk at most 1048576: NARROWER than '..Said'. Prove '..Said' where nothing that the law and all that it calls make is longer than what came in: it says more and counts as full. Else prove '..UptoSaid'. A law counts once. -/
mutual
def uptoBulk {H : Type} : DataW H → Nat
  | .lit (.string bytes) => bytes.length + 1
  | .lit _ => 1
  | .nil => 1
  | .ptr d => uptoBulk d + 1
  | .slice elems spare => uptoBulkAll elems + uptoBulkAll spare + 1
  | .agg parts => uptoBulkAll parts + 1
  | .iface _ d => uptoBulk d + 1
  | .map entries => uptoBulkEntries entries + 1
  | .held _ => 1
def uptoBulkAll {H : Type} : List (DataW H) → Nat
  | [] => 0
  | d :: r => uptoBulk d + uptoBulkAll r
def uptoBulkEntries {H : Type} : List (Lit × DataW H) → Nat
  | [] => 0
  | x :: r => uptoBulkEntry x + uptoBulkEntries r
def uptoBulkEntry {H : Type} : Lit × DataW H → Nat
  | (.string bytes, d) => bytes.length + uptoBulk d + 1
  | (_, d) => uptoBulk d + 1
 end
def uptoSmall : (H : Type) → List (DataW H) → Bool := fun _ ds => decide (uptoBulkAll ds ≤ 1048576)
def OpenSpec.upto (s : _root_.Go.ChangeSpec) : _root_.Go.OpenSpec := { _root_.Go.OpenSpec.ofChange s with cond := some uptoSmall }

/-- 'shyardlaw05.WordWalks', WHERE WHAT IT READS IS OF BULK AT MOST 1048576: true; the input reads as it did. -/
def wordWalksUptoRow : OpenClaim := { program := "ytblgilokdmmjeaadoor", sum := "fae04b2ca66f1b4bf60a5b4a30a7f633d88231e1d4a6ad1c52ff8fb00a7512a1", func := "shyard/shyardlaw05.WordWalks", spec := "wordWalks", inPlace := ["internal/bytealg.IndexByteString", "internal/bytealg.IndexString"], unfollowed := true, recurses := true, named := ["unicode/utf8.first", "unicode/utf8.acceptRanges", "internal/bytealg.MaxLen"], apart := false, laid := [("unicode/utf8.acceptRanges", laid_unicode_utf8_acceptRanges), ("unicode/utf8.first", laid_unicode_utf8_first)], narrowed := true }
def WordWalksUptoSaid : Prop := wordWalksUptoRow.holds Tryd.pinned (OpenSpec.upto wordWalksSpec)

/-- 'shyardlaw05.WordAssigns', WHERE WHAT IT READS IS OF BULK AT MOST 1048576: true; the input reads as it did. -/
def wordAssignsUptoRow : OpenClaim := { program := "ytblgilokdmmjeaadoor", sum := "fae04b2ca66f1b4bf60a5b4a30a7f633d88231e1d4a6ad1c52ff8fb00a7512a1", func := "shyard/shyardlaw05.WordAssigns", spec := "wordAssigns", inPlace := ["internal/bytealg.IndexByteString", "internal/bytealg.IndexString"], recurses := true, named := ["unicode/utf8.first", "unicode/utf8.acceptRanges", "internal/bytealg.MaxLen"], apart := false, laid := [("unicode/utf8.acceptRanges", laid_unicode_utf8_acceptRanges), ("unicode/utf8.first", laid_unicode_utf8_first)], narrowed := true }
def WordAssignsUptoSaid : Prop := wordAssignsUptoRow.holds Tryd.pinned (OpenSpec.upto wordAssignsSpec)

/-- 'shyardlaw05.WordDoubles', WHERE WHAT IT READS IS OF BULK AT MOST 1048576: true; the input reads as it did. -/
def wordDoublesUptoRow : OpenClaim := { program := "ytblgilokdmmjeaadoor", sum := "fae04b2ca66f1b4bf60a5b4a30a7f633d88231e1d4a6ad1c52ff8fb00a7512a1", func := "shyard/shyardlaw05.WordDoubles", spec := "wordDoubles", inPlace := ["internal/bytealg.IndexByteString", "internal/bytealg.IndexString", "internal/abi.NoEscape"], recurses := true, named := ["unicode/utf8.first", "unicode/utf8.acceptRanges", "internal/bytealg.MaxLen"], apart := false, laid := [("unicode/utf8.acceptRanges", laid_unicode_utf8_acceptRanges), ("unicode/utf8.first", laid_unicode_utf8_first)], narrowed := true }
def WordDoublesUptoSaid : Prop := wordDoublesUptoRow.holds Tryd.pinned (OpenSpec.upto wordDoublesSpec)

/-- 'shyardlaw05.WordQuotes', WHERE WHAT IT READS IS OF BULK AT MOST 1048576: true; the input reads as it did. -/
def wordQuotesUptoRow : OpenClaim := { program := "ytblgilokdmmjeaadoor", sum := "fae04b2ca66f1b4bf60a5b4a30a7f633d88231e1d4a6ad1c52ff8fb00a7512a1", func := "shyard/shyardlaw05.WordQuotes", spec := "wordQuotes", inPlace := ["internal/bytealg.IndexByteString", "internal/bytealg.IndexString", "internal/bytealg.CountString", "internal/abi.NoEscape", "internal/bytealg.MakeNoZero"], unfollowed := true, recurses := true, named := ["unicode/utf8.first", "unicode/utf8.acceptRanges", "internal/bytealg.MaxLen"], apart := false, laid := [("unicode/utf8.acceptRanges", laid_unicode_utf8_acceptRanges), ("unicode/utf8.first", laid_unicode_utf8_first)], narrowed := true }
def WordQuotesUptoSaid : Prop := wordQuotesUptoRow.holds Tryd.pinned (OpenSpec.upto wordQuotesSpec)

/-- 'shyardlaw05.WordParams', WHERE WHAT IT READS IS OF BULK AT MOST 1048576: true; the input reads as it did. -/
def wordParamsUptoRow : OpenClaim := { program := "ytblgilokdmmjeaadoor", sum := "fae04b2ca66f1b4bf60a5b4a30a7f633d88231e1d4a6ad1c52ff8fb00a7512a1", func := "shyard/shyardlaw05.WordParams", spec := "wordParams", inPlace := ["internal/bytealg.IndexByteString", "internal/bytealg.IndexString", "internal/bytealg.CountString", "internal/abi.NoEscape", "internal/bytealg.MakeNoZero"], unfollowed := true, recurses := true, named := ["unicode/utf8.first", "unicode/utf8.acceptRanges", "internal/bytealg.MaxLen"], apart := false, laid := [("unicode/utf8.acceptRanges", laid_unicode_utf8_acceptRanges), ("unicode/utf8.first", laid_unicode_utf8_first)], narrowed := true }
def WordParamsUptoSaid : Prop := wordParamsUptoRow.holds Tryd.pinned (OpenSpec.upto wordParamsSpec)

end Rows
end Go.Proofs.YtblgilokdmmjeaaDoor
