/-
  Types of the program and their rows.
-/
import Derived.Test.YtomcodpgickmgaaGreatDoorTriB20
import Derived.Test.YtomcodpgickmgaaGreatDoorPLex5
import Derived.Test.YtomcodpgickmgaaGreatDoorProg
namespace Go.Tri
open Go.Proofs Go.RowKit
theorem mo : Tryz.prog.follows .mixedOrders = true := by kernel_rfl
theorem ti3 : TI Tryz.prog 3 1 8 (.int .i64 0) := ti_of (by kernel_rfl)
theorem ti4 : TI Tryz.prog 4 1 1 (.bool false) := ti_of (by kernel_rfl)
theorem ti5 : TI Tryz.prog 5 1 1 (.int .u8 0) := ti_of (by kernel_rfl)
theorem ti9 : TI Tryz.prog 9 1 16 (str []) := ti_of (by kernel_rfl)
theorem ti25 : TI Tryz.prog 25 1 24 (.slice none 0 0) := ti_of (by kernel_rfl)
theorem ti26 : TI Tryz.prog 26 1 24 (.slice none 0 0) := ti_of (by kernel_rfl)
theorem ti27 : TI Tryz.prog 27 1 24 (.slice none 0 0) := ti_of (by kernel_rfl)
theorem ti29 : TI Tryz.prog 29 7 104 (.agg #[.int .i64 0, .bool false, .bool false, str [], .slice none 0 0, .slice none 0 0, .slice none 0 0]) := ti_of (by kernel_rfl)
theorem ti30 : TI Tryz.prog 30 1 8 (.int .i64 0) := ti_of (by kernel_rfl)
theorem ti48 : TI Tryz.prog 48 2 16 (.agg #[.int .i64 0, .int .i64 0]) := ti_of (by kernel_rfl)
theorem ti51 : TI Tryz.prog 51 1 24 (.slice none 0 0) := ti_of (by kernel_rfl)
theorem ti53 : TI Tryz.prog 53 3 48 (.agg #[str [], .slice none 0 0, .int .i64 0]) := ti_of (by kernel_rfl)
theorem ti59 : TI Tryz.prog 59 5 64 (.agg #[.int .i64 0, str [], str [], str [], .bool false]) := ti_of (by kernel_rfl)
theorem ti66 : TI Tryz.prog 66 1 8 (.pointer none) := ti_of (by kernel_rfl)
theorem ti67 : TI Tryz.prog 67 1 24 (.slice none 0 0) := ti_of (by kernel_rfl)
theorem ti69 : TI Tryz.prog 69 2 32 (.agg #[.pointer none, .slice none 0 0]) := ti_of (by kernel_rfl)
theorem ti79 : TI Tryz.prog 79 5 56 (.agg #[.int .i64 0, str [], .int .i64 0, str [], .bool false]) := ti_of (by kernel_rfl)
theorem ti128 : TI Tryz.prog 128 2 16 (.agg #[.int .i64 0, .int .i64 0]) := ti_of (by kernel_rfl)
theorem ti130 : TI Tryz.prog 130 4 40 (.agg #[str [], .int .i64 0, .int .i64 0, .int .i64 0]) := ti_of (by kernel_rfl)
end Go.Tri
