/-
  The statement: lines joined.
-/
import Derived.Test.YtigfpkcaakkgaaaDoorOA6
namespace Go.Tri
open Go.Proofs Go.RowKit
end Go.Tri
