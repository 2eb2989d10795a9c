/-
  The statement walked: parameters.
-/
import Derived.Test.YtbogmbdfjgnfaaaGreatDoorEM8
namespace Go.Tri
open Go.Proofs Go.RowKit
end Go.Tri
