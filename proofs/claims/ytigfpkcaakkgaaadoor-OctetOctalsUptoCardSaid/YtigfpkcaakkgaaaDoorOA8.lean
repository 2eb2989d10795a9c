/-
  The statement: lines.
-/
import Derived.Test.YtigfpkcaakkgaaaDoorOA7
namespace Go.Tri
open Go.Proofs Go.RowKit
end Go.Tri
