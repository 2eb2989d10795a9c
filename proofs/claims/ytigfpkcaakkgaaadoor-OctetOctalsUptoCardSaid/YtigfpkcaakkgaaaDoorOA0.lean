/-
  Types of the program and their rows.
-/
import Derived.Test.YtigfpkcaakkgaaaDoorTriB21
import Derived.Test.YtigfpkcaakkgaaaDoorPOct
import Derived.Test.YtigfpkcaakkgaaaDoorPNum
import Derived.Test.YtigfpkcaakkgaaaDoorProg
namespace Go.Tri
open Go.Proofs Go.RowKit
theorem mo : Tryd.prog.follows .mixedOrders = true := by kernel_rfl
theorem ti5 : TI Tryd.prog 5 1 1 (.int .u8 0) := ti_of (by kernel_rfl)
theorem ti95 : TI Tryd.prog 95 65 65 (.agg #[.int .u8 0, .int .u8 0, .int .u8 0, .int .u8 0, .int .u8 0, .int .u8 0, .int .u8 0, .int .u8 0, .int .u8 0, .int .u8 0, .int .u8 0, .int .u8 0, .int .u8 0, .int .u8 0, .int .u8 0, .int .u8 0, .int .u8 0, .int .u8 0, .int .u8 0, .int .u8 0, .int .u8 0, .int .u8 0, .int .u8 0, .int .u8 0, .int .u8 0, .int .u8 0, .int .u8 0, .int .u8 0, .int .u8 0, .int .u8 0, .int .u8 0, .int .u8 0, .int .u8 0, .int .u8 0, .int .u8 0, .int .u8 0, .int .u8 0, .int .u8 0, .int .u8 0, .int .u8 0, .int .u8 0, .int .u8 0, .int .u8 0, .int .u8 0, .int .u8 0, .int .u8 0, .int .u8 0, .int .u8 0, .int .u8 0, .int .u8 0, .int .u8 0, .int .u8 0, .int .u8 0, .int .u8 0, .int .u8 0, .int .u8 0, .int .u8 0, .int .u8 0, .int .u8 0, .int .u8 0, .int .u8 0, .int .u8 0, .int .u8 0, .int .u8 0, .int .u8 0]) := ti_of (by kernel_rfl)
end Go.Tri
