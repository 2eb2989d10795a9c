/-
  No cell of these rows narrows 'for every input' (looked for: loops, veiled, ifaces, maps, wideKeys, modest, calm, conditions, laid).
  DERIVED. THE GIVEN ROWS OF THIS SEAT. 6 by the template 'for every input the law returns true; each argument reads behind the call as it read before'; 0 by the template 'total and deterministic' (their statements: YtlhjbemcapnmjaaTotals.lean).
  GIVEN WITH THE SEED: the statements are not yours to turn. If you find one false, say at which input.
  Laid BY PROGRAM, IN A SANDBOX (cutbox-rows.mjs): the forced cells as the released guide's own fill.sh prints them over the translation affe495cd3e9531a… (all of the seat's roots in one cut). By AI agents, Wed Nov 11 2026. No macro, syntax, notation, axiom, sorry.
-/
import Derived.Test.YtlhjbemcapnmjaaChecked
import GoSem.Claim
import GoSem.ClaimJoined
import GoSem.ClaimMapViews
import Derived.JoinedTies
import Derived.KernelRfl
namespace Go.Proofs.Ytlhjbemcapnmjaa
/- THE CELL 'sum', in the pinned program and in every row, IS THE sha256 OF THE DUMP (.gsa) THAT YtlhjbemcapnmjaaProg.lean LOADS. Nothing in Lean hashes anything: it is a label: what it is worth is what the hold of that sum in a sandbox is worth. -/
noncomputable def Try.pinned : Pinned := { name := "ytlhjbemcapnmjaa", sum := "affe495cd3e9531a1c489ca2ee9ff2cbd59bd5d3a5af39b7c5bce81ae6615206", checked := Try.checked }
namespace Rows
def none {H : Type} : Left H := { results := [], args := [] }

/-- 'shyardlaw02.PatternCuts': WHATEVER THE INPUT: true; the input reads as it did. -/
def patternCutsSpec : ChangeSpec := { name := "patternCuts", fn := fun _ => fun
  | [d1, d2, d3] => { results := [.lit (.bool true)], args := [d1, d2, d3] }
  | _ => none }
def patternCutsRow : OpenClaim := { program := "ytlhjbemcapnmjaa", sum := "affe495cd3e9531a1c489ca2ee9ff2cbd59bd5d3a5af39b7c5bce81ae6615206", func := "shyard/shyardlaw02.PatternCuts", spec := "patternCuts", unfollowed := true, recurses := true, apart := false }
def PatternCutsSaid : Prop := patternCutsRow.holds Try.pinned (OpenSpec.ofChange patternCutsSpec)

/-- ITS FALSE NEIGHBOUR: 'it returns false'. Refute it at one input. -/
def patternCutsWrong : ChangeSpec := { name := "patternCuts", fn := fun _ => fun
  | [d1, d2, d3] => { results := [.lit (.bool false)], args := [d1, d2, d3] }
  | _ => none }
def PatternCutsWrongFalsely : Prop := patternCutsRow.holds Try.pinned (OpenSpec.ofChange patternCutsWrong)

/-- 'shyardlaw02.PatternStars': WHATEVER THE INPUT: true; the input reads as it did. -/
def patternStarsSpec : ChangeSpec := { name := "patternStars", fn := fun _ => fun
  | [d1, d2] => { results := [.lit (.bool true)], args := [d1, d2] }
  | _ => none }
def patternStarsRow : OpenClaim := { program := "ytlhjbemcapnmjaa", sum := "affe495cd3e9531a1c489ca2ee9ff2cbd59bd5d3a5af39b7c5bce81ae6615206", func := "shyard/shyardlaw02.PatternStars", spec := "patternStars", unfollowed := true, recurses := true, apart := false }
def PatternStarsSaid : Prop := patternStarsRow.holds Try.pinned (OpenSpec.ofChange patternStarsSpec)

/-- ITS FALSE NEIGHBOUR: 'it returns false'. Refute it at one input. -/
def patternStarsWrong : ChangeSpec := { name := "patternStars", fn := fun _ => fun
  | [d1, d2] => { results := [.lit (.bool false)], args := [d1, d2] }
  | _ => none }
def PatternStarsWrongFalsely : Prop := patternStarsRow.holds Try.pinned (OpenSpec.ofChange patternStarsWrong)

/-- 'shyardlaw02.PatternSplits': WHATEVER THE INPUT: true; the input reads as it did. -/
def patternSplitsSpec : ChangeSpec := { name := "patternSplits", fn := fun _ => fun
  | [d1, d2, d3] => { results := [.lit (.bool true)], args := [d1, d2, d3] }
  | _ => none }
def patternSplitsRow : OpenClaim := { program := "ytlhjbemcapnmjaa", sum := "affe495cd3e9531a1c489ca2ee9ff2cbd59bd5d3a5af39b7c5bce81ae6615206", func := "shyard/shyardlaw02.PatternSplits", spec := "patternSplits", unfollowed := true, recurses := true, apart := false }
def PatternSplitsSaid : Prop := patternSplitsRow.holds Try.pinned (OpenSpec.ofChange patternSplitsSpec)

/-- ITS FALSE NEIGHBOUR: 'it returns false'. Refute it at one input. -/
def patternSplitsWrong : ChangeSpec := { name := "patternSplits", fn := fun _ => fun
  | [d1, d2, d3] => { results := [.lit (.bool false)], args := [d1, d2, d3] }
  | _ => none }
def PatternSplitsWrongFalsely : Prop := patternSplitsRow.holds Try.pinned (OpenSpec.ofChange patternSplitsWrong)

/-- 'shyardlaw02.PatternTurned': WHATEVER THE INPUT: true; the input reads as it did. -/
def patternTurnedSpec : ChangeSpec := { name := "patternTurned", fn := fun _ => fun
  | [d1, d2] => { results := [.lit (.bool true)], args := [d1, d2] }
  | _ => none }
def patternTurnedRow : OpenClaim := { program := "ytlhjbemcapnmjaa", sum := "affe495cd3e9531a1c489ca2ee9ff2cbd59bd5d3a5af39b7c5bce81ae6615206", func := "shyard/shyardlaw02.PatternTurned", spec := "patternTurned", unfollowed := true, recurses := true, apart := false }
def PatternTurnedSaid : Prop := patternTurnedRow.holds Try.pinned (OpenSpec.ofChange patternTurnedSpec)

/-- ITS FALSE NEIGHBOUR: 'it returns false'. Refute it at one input. -/
def patternTurnedWrong : ChangeSpec := { name := "patternTurned", fn := fun _ => fun
  | [d1, d2] => { results := [.lit (.bool false)], args := [d1, d2] }
  | _ => none }
def PatternTurnedWrongFalsely : Prop := patternTurnedRow.holds Try.pinned (OpenSpec.ofChange patternTurnedWrong)

/-- 'shyardlaw02.PatternMatches': WHATEVER THE INPUT: true; the input reads as it did. -/
def patternMatchesSpec : ChangeSpec := { name := "patternMatches", fn := fun _ => fun
  | [d1, d2] => { results := [.lit (.bool true)], args := [d1, d2] }
  | _ => none }
def patternMatchesRow : OpenClaim := { program := "ytlhjbemcapnmjaa", sum := "affe495cd3e9531a1c489ca2ee9ff2cbd59bd5d3a5af39b7c5bce81ae6615206", func := "shyard/shyardlaw02.PatternMatches", spec := "patternMatches", inPlace := ["internal/bytealg.IndexByteString"], unfollowed := true, recurses := true, apart := false }
def PatternMatchesSaid : Prop := patternMatchesRow.holds Try.pinned (OpenSpec.ofChange patternMatchesSpec)

/-- ITS FALSE NEIGHBOUR: 'it returns false'. Refute it at one input. -/
def patternMatchesWrong : ChangeSpec := { name := "patternMatches", fn := fun _ => fun
  | [d1, d2] => { results := [.lit (.bool false)], args := [d1, d2] }
  | _ => none }
def PatternMatchesWrongFalsely : Prop := patternMatchesRow.holds Try.pinned (OpenSpec.ofChange patternMatchesWrong)

/-- 'shyardlaw02.PatternTexts': WHATEVER THE INPUT: true; the input reads as it did. -/
def patternTextsSpec : ChangeSpec := { name := "patternTexts", fn := fun _ => fun
  | [d1, d2] => { results := [.lit (.bool true)], args := [d1, d2] }
  | _ => none }
def patternTextsRow : OpenClaim := { program := "ytlhjbemcapnmjaa", sum := "affe495cd3e9531a1c489ca2ee9ff2cbd59bd5d3a5af39b7c5bce81ae6615206", func := "shyard/shyardlaw02.PatternTexts", spec := "patternTexts", inPlace := ["internal/bytealg.IndexByteString"], unfollowed := true, recurses := true, apart := false }
def PatternTextsSaid : Prop := patternTextsRow.holds Try.pinned (OpenSpec.ofChange patternTextsSpec)

/-- ITS FALSE NEIGHBOUR: 'it returns false'. Refute it at one input. -/
def patternTextsWrong : ChangeSpec := { name := "patternTexts", fn := fun _ => fun
  | [d1, d2] => { results := [.lit (.bool false)], args := [d1, d2] }
  | _ => none }
def PatternTextsWrongFalsely : Prop := patternTextsRow.holds Try.pinned (OpenSpec.ofChange patternTextsWrong)

/- THE SECOND FORM. 'bulk': how many values and letters a reading holds, each counted each time it is reached (what is shared counts as often as it is met; a slice's spare places count too). A statement '..UptoSaid' is the law's where the arguments, and the package variables that the reading takes, are together of bulk at most 1048576: NARROWER than '..Said'. Prove '..Said' where nothing that the law and all that it calls make is longer than what came in: it says more and counts as full. Else prove '..UptoSaid'. A law counts once. -/
mutual
def uptoBulk {H : Type} : DataW H → Nat
  | .lit (.string bytes) => bytes.length + 1
  | .lit _ => 1
  | .nil => 1
  | .ptr d => uptoBulk d + 1
  | .slice elems spare => uptoBulkAll elems + uptoBulkAll spare + 1
  | .agg parts => uptoBulkAll parts + 1
  | .iface _ d => uptoBulk d + 1
  | .map entries => uptoBulkEntries entries + 1
  | .held _ => 1
def uptoBulkAll {H : Type} : List (DataW H) → Nat
  | [] => 0
  | d :: r => uptoBulk d + uptoBulkAll r
def uptoBulkEntries {H : Type} : List (Lit × DataW H) → Nat
  | [] => 0
  | x :: r => uptoBulkEntry x + uptoBulkEntries r
def uptoBulkEntry {H : Type} : Lit × DataW H → Nat
  | (.string bytes, d) => bytes.length + uptoBulk d + 1
  | (_, d) => uptoBulk d + 1
 end
def uptoSmall : (H : Type) → List (DataW H) → Bool := fun _ ds => decide (uptoBulkAll ds ≤ 1048576)
def OpenSpec.upto (s : _root_.Go.ChangeSpec) : _root_.Go.OpenSpec := { _root_.Go.OpenSpec.ofChange s with cond := some uptoSmall }

/-- 'shyardlaw02.PatternCuts', WHERE WHAT IT READS IS OF BULK AT MOST 1048576: true; the input reads as it did. -/
def patternCutsUptoRow : OpenClaim := { program := "ytlhjbemcapnmjaa", sum := "affe495cd3e9531a1c489ca2ee9ff2cbd59bd5d3a5af39b7c5bce81ae6615206", func := "shyard/shyardlaw02.PatternCuts", spec := "patternCuts", unfollowed := true, recurses := true, apart := false, narrowed := true }
def PatternCutsUptoSaid : Prop := patternCutsUptoRow.holds Try.pinned (OpenSpec.upto patternCutsSpec)

/-- 'shyardlaw02.PatternStars', WHERE WHAT IT READS IS OF BULK AT MOST 1048576: true; the input reads as it did. -/
def patternStarsUptoRow : OpenClaim := { program := "ytlhjbemcapnmjaa", sum := "affe495cd3e9531a1c489ca2ee9ff2cbd59bd5d3a5af39b7c5bce81ae6615206", func := "shyard/shyardlaw02.PatternStars", spec := "patternStars", unfollowed := true, recurses := true, apart := false, narrowed := true }
def PatternStarsUptoSaid : Prop := patternStarsUptoRow.holds Try.pinned (OpenSpec.upto patternStarsSpec)

/-- 'shyardlaw02.PatternSplits', WHERE WHAT IT READS IS OF BULK AT MOST 1048576: true; the input reads as it did. -/
def patternSplitsUptoRow : OpenClaim := { program := "ytlhjbemcapnmjaa", sum := "affe495cd3e9531a1c489ca2ee9ff2cbd59bd5d3a5af39b7c5bce81ae6615206", func := "shyard/shyardlaw02.PatternSplits", spec := "patternSplits", unfollowed := true, recurses := true, apart := false, narrowed := true }
def PatternSplitsUptoSaid : Prop := patternSplitsUptoRow.holds Try.pinned (OpenSpec.upto patternSplitsSpec)

/-- 'shyardlaw02.PatternTurned', WHERE WHAT IT READS IS OF BULK AT MOST 1048576: true; the input reads as it did. -/
def patternTurnedUptoRow : OpenClaim := { program := "ytlhjbemcapnmjaa", sum := "affe495cd3e9531a1c489ca2ee9ff2cbd59bd5d3a5af39b7c5bce81ae6615206", func := "shyard/shyardlaw02.PatternTurned", spec := "patternTurned", unfollowed := true, recurses := true, apart := false, narrowed := true }
def PatternTurnedUptoSaid : Prop := patternTurnedUptoRow.holds Try.pinned (OpenSpec.upto patternTurnedSpec)

/-- 'shyardlaw02.PatternMatches', WHERE WHAT IT READS IS OF BULK AT MOST 1048576: true; the input reads as it did. -/
def patternMatchesUptoRow : OpenClaim := { program := "ytlhjbemcapnmjaa", sum := "affe495cd3e9531a1c489ca2ee9ff2cbd59bd5d3a5af39b7c5bce81ae6615206", func := "shyard/shyardlaw02.PatternMatches", spec := "patternMatches", inPlace := ["internal/bytealg.IndexByteString"], unfollowed := true, recurses := true, apart := false, narrowed := true }
def PatternMatchesUptoSaid : Prop := patternMatchesUptoRow.holds Try.pinned (OpenSpec.upto patternMatchesSpec)

/-- 'shyardlaw02.PatternTexts', WHERE WHAT IT READS IS OF BULK AT MOST 1048576: true; the input reads as it did. -/
def patternTextsUptoRow : OpenClaim := { program := "ytlhjbemcapnmjaa", sum := "affe495cd3e9531a1c489ca2ee9ff2cbd59bd5d3a5af39b7c5bce81ae6615206", func := "shyard/shyardlaw02.PatternTexts", spec := "patternTexts", inPlace := ["internal/bytealg.IndexByteString"], unfollowed := true, recurses := true, apart := false, narrowed := true }
def PatternTextsUptoSaid : Prop := patternTextsUptoRow.holds Try.pinned (OpenSpec.upto patternTextsSpec)

end Rows
end Go.Proofs.Ytlhjbemcapnmjaa
