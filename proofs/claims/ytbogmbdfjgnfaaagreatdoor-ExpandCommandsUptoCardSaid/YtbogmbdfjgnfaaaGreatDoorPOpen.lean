/-
  Slices of structs and texts as arguments: what they read as.
-/
import Derived.Test.YtbogmbdfjgnfaaaGreatDoorPGen
import Derived.WalkKit
import Derived.ProofKit
import Derived.OpenShut
import Derived.JoinedCond
import Derived.Below
import Derived.Deep.Slices
import Derived.Deep.Fields
import Derived.ChangeSame
import Derived.SliceStrings
import Derived.ShutString
import Derived.ChangeOld
namespace Go.Tri
open Go.ChangeShapes Go.WideShapes Go.Deep
section
variable {H : Type} {enc : TypeId × Value → H} {P : Program} {w : World} {base : Nat} {spare : Nat → Bool} {held : Bool}
end

end Go.Tri
namespace Go.Tri
open Go.ChangeShapes Go.WideShapes Go.ChangeAt Go.RowKit
theorem str_data (s : ByteArray) : str s.data.toList = .string s := by
  obtain ⟨⟨l⟩⟩ := s
  rfl
end Go.Tri
