/-
 Types of the program and their rows.
-/
import Derived.Test.YtbogmbdfjgnfaaaGreatDoorTriB24
import Derived.Test.YtbogmbdfjgnfaaaGreatDoorPLex5
import Derived.Test.YtbogmbdfjgnfaaaGreatDoorProg
namespace Go.Tri
open Go.Proofs Go.RowKit
theorem mo : Tryz.prog.follows .mixedOrders = true := by kernel_rfl
theorem ti3 : TI Tryz.prog 3 1 8 (.int .i64 0) := ti_of (by kernel_rfl)
theorem ti4 : TI Tryz.prog 4 1 1 (.bool false) := ti_of (by kernel_rfl)
theorem ti5 : TI Tryz.prog 5 1 1 (.int .u8 0) := ti_of (by kernel_rfl)
theorem ti9 : TI Tryz.prog 9 1 16 (str []) := ti_of (by kernel_rfl)
theorem ti23 : TI Tryz.prog 23 1 24 (.slice none 0 0) := ti_of (by kernel_rfl)
theorem ti24 : TI Tryz.prog 24 1 24 (.slice none 0 0) := ti_of (by kernel_rfl)
theorem ti26 : TI Tryz.prog 26 4 96 (.agg #[.slice none 0 0, .slice none 0 0, .slice none 0 0, .slice none 0 0]) := ti_of (by kernel_rfl)
theorem ti28 : TI Tryz.prog 28 5 40 (.agg #[str [], str [], .bool false, .bool false, .bool false]) := ti_of (by kernel_rfl)
theorem ti30 : TI Tryz.prog 30 1 8 (.int .i64 0) := ti_of (by kernel_rfl)
theorem ti34 : TI Tryz.prog 34 1 8 (.pointer none) := ti_of (by kernel_rfl)
theorem ti37 : TI Tryz.prog 37 1 8 (.agg #[.pointer none]) := ti_of (by kernel_rfl)
theorem ti40 : TI Tryz.prog 40 1 8 (.pointer none) := ti_of (by kernel_rfl)
theorem ti41 : TI Tryz.prog 41 1 8 (.pointer none) := ti_of (by kernel_rfl)
theorem ti43 : TI Tryz.prog 43 7 112 (.agg #[.pointer none, .slice none 0 0, .pointer none, .int .i64 0, .slice none 0 0, .slice none 0 0, str []]) := ti_of (by kernel_rfl)
theorem ti47 : TI Tryz.prog 47 1 24 (.slice none 0 0) := ti_of (by kernel_rfl)
theorem ti59 : TI Tryz.prog 59 1 16 (.nilIface) := ti_of (by kernel_rfl)
theorem ti65 : TI Tryz.prog 65 2 48 (.agg #[.slice none 0 0, .slice none 0 0]) := ti_of (by kernel_rfl)
theorem ti80 : TI Tryz.prog 80 1 24 (.slice none 0 0) := ti_of (by kernel_rfl)
theorem ti88 : TI Tryz.prog 88 2 2 (.agg #[.int .u8 0, .bool false]) := ti_of (by kernel_rfl)
theorem ti96 : TI Tryz.prog 96 1 24 (.slice none 0 0) := ti_of (by kernel_rfl)
theorem ti101 : TI Tryz.prog 101 3 40 (.agg #[.nilIface, str [], .int .i64 0]) := ti_of (by kernel_rfl)
theorem ti103 : TI Tryz.prog 103 1 8 (.pointer none) := ti_of (by kernel_rfl)
theorem ti104 : TI Tryz.prog 104 1 24 (.slice none 0 0) := ti_of (by kernel_rfl)
theorem ti106 : TI Tryz.prog 106 2 32 (.agg #[.pointer none, .slice none 0 0]) := ti_of (by kernel_rfl)
theorem ti108 : TI Tryz.prog 108 3 24 (.agg #[str [], .bool false, .bool false]) := ti_of (by kernel_rfl)
theorem ti110 : TI Tryz.prog 110 4 32 (.agg #[str [], .bool false, .bool false, .bool false]) := ti_of (by kernel_rfl)
theorem ti117 : TI Tryz.prog 117 1 24 (.slice none 0 0) := ti_of (by kernel_rfl)
theorem ti119 : TI Tryz.prog 119 8 104 (.agg #[.int .i64 0, .int .i64 0, .int .i64 0, .int .i64 0, .int .i64 0, str [], .slice none 0 0, .slice none 0 0]) := ti_of (by kernel_rfl)
theorem ti120 : TI Tryz.prog 120 1 24 (.slice none 0 0) := ti_of (by kernel_rfl)
theorem ti122 : TI Tryz.prog 122 1 24 (.agg #[.slice none 0 0]) := ti_of (by kernel_rfl)
theorem ti129 : TI Tryz.prog 129 1 8 (.pointer none) := ti_of (by kernel_rfl)
theorem ti131 : TI Tryz.prog 131 5 56 (.agg #[.slice none 0 0, .slice none 0 0, .bool false, .bool false, .bool false]) := ti_of (by kernel_rfl)
theorem ti148 : TI Tryz.prog 148 5 72 (.agg #[.int .i64 0, str [], str [], .slice none 0 0, .bool false]) := ti_of (by kernel_rfl)
theorem ti167 : TI Tryz.prog 167 1 24 (.slice none 0 0) := ti_of (by kernel_rfl)
theorem ti169 : TI Tryz.prog 169 4 56 (.agg #[str [], .int .i64 0, .int .i64 0, .slice none 0 0]) := ti_of (by kernel_rfl)
theorem ti240 : TI Tryz.prog 240 2 16 (.agg #[.int .i64 0, .int .i64 0]) := ti_of (by kernel_rfl)
theorem ti242 : TI Tryz.prog 242 4 40 (.agg #[str [], .int .i64 0, .int .i64 0, .int .i64 0]) := ti_of (by kernel_rfl)
theorem ti284 : TI Tryz.prog 284 3 24 (.agg #[str [], .int .u8 0, .int .u8 0]) := ti_of (by kernel_rfl)
end Go.Tri
