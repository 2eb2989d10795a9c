/-
  Lists of texts as arguments: what they read as.
-/
import Derived.Test.YtomcodpgickmgaaGreatDoorQE2
import Derived.Test.YtomcodpgickmgaaGreatDoorPOpen
import Derived.Test.YtomcodpgickmgaaGreatDoorRows
set_option maxRecDepth 100000
namespace Go.Tri
open Go.ChangeShapes Go.WideShapes Go.ChangeAt Go.RowKit Go.Proofs
open Go.Proofs.YtomcodpgickmgaaGreatDoor
end Go.Tri
