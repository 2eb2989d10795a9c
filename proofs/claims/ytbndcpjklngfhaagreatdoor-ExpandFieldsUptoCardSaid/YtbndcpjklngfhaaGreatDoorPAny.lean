/-
 Runes of a text and single bytes, in plain words.
-/
import Derived.Test.YtbndcpjklngfhaaGreatDoorPOct
import Derived.Test.YtbndcpjklngfhaaGreatDoorTriY
namespace Go.Tri
open Go.RowKit
end Go.Tri
