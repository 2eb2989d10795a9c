/-
 Runes of a text and single bytes, in plain words.
-/
import Derived.Test.YtbogmbdfjgnfaaaGreatDoorPOct
import Derived.Test.YtbogmbdfjgnfaaaGreatDoorTriB24
namespace Go.Tri
open Go.RowKit
def anyOf (s chars : List UInt8) : Bool := s.any (hasB chars)
end Go.Tri
