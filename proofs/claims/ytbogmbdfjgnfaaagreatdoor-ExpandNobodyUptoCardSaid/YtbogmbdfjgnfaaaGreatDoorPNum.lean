/-
  Numbers as texts, in plain words.
-/
import Derived.Test.YtbogmbdfjgnfaaaGreatDoorPOct
import Derived.Lib.SlTrimSet
namespace Go.Tri
open Go.RowKit
end Go.Tri
