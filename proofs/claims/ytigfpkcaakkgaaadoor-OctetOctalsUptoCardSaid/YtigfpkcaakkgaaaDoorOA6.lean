/-
  The statements: numbers, signs, texts, names.
-/
import Derived.Test.YtigfpkcaakkgaaaDoorOA5
namespace Go.Tri
open Go.Proofs Go.RowKit
end Go.Tri
