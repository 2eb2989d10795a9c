/-
 Runes of a text and single bytes, in plain words.
-/
import Derived.Test.YtmjcakamgeepbaaGreatDoorPOct
import Derived.Test.YtmjcakamgeepbaaGreatDoorTriZ
namespace Go.Tri
open Go.RowKit
def anyOf (s chars : List UInt8) : Bool := s.any (hasB chars)
end Go.Tri
