/-
 Types of the program and their rows.
-/
import Derived.Test.YtmjcakamgeepbaaGreatDoorTriZ
import Derived.Test.YtmjcakamgeepbaaGreatDoorPLex5
import Derived.Test.YtmjcakamgeepbaaGreatDoorProg
namespace Go.Tri
open Go.Proofs Go.RowKit
theorem mo : Tryz.prog.follows .mixedOrders = true := by kernel_rfl
theorem ti2 : TI Tryz.prog 2 1 8 (.int .i64 0) := ti_of (by kernel_rfl)
theorem ti3 : TI Tryz.prog 3 1 8 (.int .i64 0) := ti_of (by kernel_rfl)
theorem ti4 : TI Tryz.prog 4 1 1 (.bool false) := ti_of (by kernel_rfl)
theorem ti5 : TI Tryz.prog 5 1 1 (.int .u8 0) := ti_of (by kernel_rfl)
theorem ti9 : TI Tryz.prog 9 1 16 (str []) := ti_of (by kernel_rfl)
theorem ti22 : TI Tryz.prog 22 1 24 (.slice none 0 0) := ti_of (by kernel_rfl)
theorem ti23 : TI Tryz.prog 23 1 24 (.slice none 0 0) := ti_of (by kernel_rfl)
theorem ti25 : TI Tryz.prog 25 4 96 (.agg #[.slice none 0 0, .slice none 0 0, .slice none 0 0, .slice none 0 0]) := ti_of (by kernel_rfl)
theorem ti28 : TI Tryz.prog 28 1 8 (.int .i64 0) := ti_of (by kernel_rfl)
theorem ti32 : TI Tryz.prog 32 1 8 (.pointer none) := ti_of (by kernel_rfl)
theorem ti35 : TI Tryz.prog 35 1 8 (.agg #[.pointer none]) := ti_of (by kernel_rfl)
theorem ti39 : TI Tryz.prog 39 5 40 (.agg #[str [], str [], .bool false, .bool false, .bool false]) := ti_of (by kernel_rfl)
theorem ti42 : TI Tryz.prog 42 1 16 (.nilIface) := ti_of (by kernel_rfl)
theorem ti52 : TI Tryz.prog 52 1 24 (.slice none 0 0) := ti_of (by kernel_rfl)
theorem ti55 : TI Tryz.prog 55 1 24 (.slice none 0 0) := ti_of (by kernel_rfl)
theorem ti59 : TI Tryz.prog 59 1 8 (.pointer none) := ti_of (by kernel_rfl)
theorem ti61 : TI Tryz.prog 61 2 48 (.agg #[.slice none 0 0, .slice none 0 0]) := ti_of (by kernel_rfl)
theorem ti62 : TI Tryz.prog 62 1 8 (.pointer none) := ti_of (by kernel_rfl)
theorem ti65 : TI Tryz.prog 65 7 112 (.agg #[.pointer none, .slice none 0 0, .pointer none, .int .i64 0, .slice none 0 0, .slice none 0 0, str []]) := ti_of (by kernel_rfl)
theorem ti73 : TI Tryz.prog 73 1 24 (.slice none 0 0) := ti_of (by kernel_rfl)
theorem ti78 : TI Tryz.prog 78 3 40 (.agg #[.nilIface, str [], .int .i64 0]) := ti_of (by kernel_rfl)
theorem ti82 : TI Tryz.prog 82 3 24 (.agg #[str [], .bool false, .bool false]) := ti_of (by kernel_rfl)
theorem ti84 : TI Tryz.prog 84 4 32 (.agg #[str [], .bool false, .bool false, .bool false]) := ti_of (by kernel_rfl)
theorem ti85 : TI Tryz.prog 85 1 8 (.pointer none) := ti_of (by kernel_rfl)
theorem ti87 : TI Tryz.prog 87 5 56 (.agg #[.slice none 0 0, .slice none 0 0, .bool false, .bool false, .bool false]) := ti_of (by kernel_rfl)
theorem ti92 : TI Tryz.prog 92 2 2 (.agg #[.int .u8 0, .bool false]) := ti_of (by kernel_rfl)
theorem ti97 : TI Tryz.prog 97 1 8 (.pointer none) := ti_of (by kernel_rfl)
theorem ti98 : TI Tryz.prog 98 1 24 (.slice none 0 0) := ti_of (by kernel_rfl)
theorem ti100 : TI Tryz.prog 100 2 32 (.agg #[.pointer none, .slice none 0 0]) := ti_of (by kernel_rfl)
theorem ti105 : TI Tryz.prog 105 1 24 (.slice none 0 0) := ti_of (by kernel_rfl)
theorem ti107 : TI Tryz.prog 107 8 104 (.agg #[.int .i64 0, .int .i64 0, .int .i64 0, .int .i64 0, .int .i64 0, str [], .slice none 0 0, .slice none 0 0]) := ti_of (by kernel_rfl)
theorem ti108 : TI Tryz.prog 108 1 24 (.slice none 0 0) := ti_of (by kernel_rfl)
theorem ti110 : TI Tryz.prog 110 1 24 (.agg #[.slice none 0 0]) := ti_of (by kernel_rfl)
theorem ti120 : TI Tryz.prog 120 5 72 (.agg #[.int .i64 0, str [], str [], .slice none 0 0, .bool false]) := ti_of (by kernel_rfl)
theorem ti133 : TI Tryz.prog 133 1 24 (.slice none 0 0) := ti_of (by kernel_rfl)
theorem ti135 : TI Tryz.prog 135 4 56 (.agg #[str [], .int .i64 0, .int .i64 0, .slice none 0 0]) := ti_of (by kernel_rfl)
theorem ti161 : TI Tryz.prog 161 1 24 (.slice none 0 0) := ti_of (by kernel_rfl)
theorem ti166 : TI Tryz.prog 166 2 24 (.agg #[str [], .int .i64 0]) := ti_of (by kernel_rfl)
theorem ti190 : TI Tryz.prog 190 1 8 (.pointer none) := ti_of (by kernel_rfl)
theorem ti195 : TI Tryz.prog 195 2 48 (.agg #[.slice none 0 0, .slice none 0 0]) := ti_of (by kernel_rfl)
theorem ti203 : TI Tryz.prog 203 2 16 (.agg #[.int .i64 0, .int .i64 0]) := ti_of (by kernel_rfl)
theorem ti205 : TI Tryz.prog 205 4 40 (.agg #[str [], .int .i64 0, .int .i64 0, .int .i64 0]) := ti_of (by kernel_rfl)
theorem ti210 : TI Tryz.prog 210 1 24 (.slice none 0 0) := ti_of (by kernel_rfl)
theorem ti212 : TI Tryz.prog 212 4 64 (.agg #[str [], str [], .int .i64 0, .slice none 0 0]) := ti_of (by kernel_rfl)
theorem ti214 : TI Tryz.prog 214 1 24 (.slice none 0 0) := ti_of (by kernel_rfl)
theorem ti217 : TI Tryz.prog 217 3 32 (.agg #[str [], .int .i64 0, .int .i64 0]) := ti_of (by kernel_rfl)
theorem ti222 : TI Tryz.prog 222 8 96 (.agg #[.slice none 0 0, str [], .int .i64 0, .int .i64 0, str [], .int .i64 0, .int .i64 0, .int .i64 0]) := ti_of (by kernel_rfl)
theorem ti264 : TI Tryz.prog 264 3 24 (.agg #[str [], .int .u8 0, .int .u8 0]) := ti_of (by kernel_rfl)
def fo : Nat → Nat → Option Nat
 | 25, 0 => some 0
 | 25, 1 => some 1
 | 25, 2 => some 2
 | 25, 3 => some 3
 | 35, 0 => some 0
 | 39, 2 => some 2
 | 39, 3 => some 3
 | 39, 4 => some 4
 | 39, 0 => some 0
 | 39, 1 => some 1
 | 61, 0 => some 0
 | 61, 1 => some 1
 | 65, 1 => some 1
 | 65, 4 => some 4
 | 65, 5 => some 5
 | 65, 0 => some 0
 | 65, 2 => some 2
 | 78, 1 => some 1
 | 78, 2 => some 2
 | 78, 0 => some 0
 | 82, 1 => some 1
 | 82, 2 => some 2
 | 82, 0 => some 0
 | 84, 1 => some 3
 | 84, 0 => some 0
 | 87, 2 => some 2
 | 87, 3 => some 3
 | 87, 4 => some 4
 | 87, 0 => some 0
 | 87, 1 => some 1
 | 92, 1 => some 1
 | 92, 0 => some 0
 | 100, 0 => some 0
 | 100, 1 => some 1
 | 107, 0 => some 0
 | 107, 1 => some 1
 | 107, 2 => some 2
 | 107, 3 => some 3
 | 107, 4 => some 4
 | 107, 6 => some 6
 | 107, 7 => some 7
 | 110, 0 => some 0
 | 120, 0 => some 0
 | 120, 4 => some 4
 | 120, 1 => some 1
 | 120, 2 => some 2
 | 120, 3 => some 3
 | 135, 1 => some 1
 | 135, 2 => some 2
 | 135, 0 => some 0
 | 135, 3 => some 3
 | 166, 1 => some 1
 | 166, 0 => some 0
 | 195, 0 => some 0
 | 195, 1 => some 1
 | 203, 0 => some 0
 | 203, 1 => some 1
 | 205, 1 => some 1
 | 205, 0 => some 0
 | 205, 2 => some 2
 | 212, 2 => some 2
 | 212, 0 => some 0
 | 212, 1 => some 1
 | 212, 3 => some 3
 | 217, 1 => some 1
 | 217, 2 => some 2
 | 217, 0 => some 0
 | 222, 3 => some 7
 | 222, 0 => some 0
 | 222, 1 => some 1
 | 222, 2 => some 4
 | 264, 1 => some 1
 | 264, 2 => some 2
 | 264, 0 => some 0
 | _, _ => none
instance : FO Tryz.prog := ⟨fo, fun t k n h => by
 unfold fo at h
 split at h
 ·cases h; exact ⟨_, _, _, _, _, Tryz.underlying25, rfl, ti22, rfl, rfl⟩
 ·cases h; exact ⟨_, _, _, _, _, Tryz.underlying25, rfl, ti23, rfl, rfl⟩
 ·cases h; exact ⟨_, _, _, _, _, Tryz.underlying25, rfl, ti23, rfl, rfl⟩
 ·cases h; exact ⟨_, _, _, _, _, Tryz.underlying25, rfl, ti23, rfl, rfl⟩
 ·cases h; exact ⟨_, _, _, _, _, Tryz.underlying35, rfl, ti32, rfl, rfl⟩
 ·cases h; exact ⟨_, _, _, _, _, Tryz.underlying39, rfl, ti4, rfl, rfl⟩
 ·cases h; exact ⟨_, _, _, _, _, Tryz.underlying39, rfl, ti4, rfl, rfl⟩
 ·cases h; exact ⟨_, _, _, _, _, Tryz.underlying39, rfl, ti4, rfl, rfl⟩
 ·cases h; exact ⟨_, _, _, _, _, Tryz.underlying39, rfl, ti9, rfl, rfl⟩
 ·cases h; exact ⟨_, _, _, _, _, Tryz.underlying39, rfl, ti9, rfl, rfl⟩
 ·cases h; exact ⟨_, _, _, _, _, Tryz.underlying61, rfl, ti22, rfl, rfl⟩
 ·cases h; exact ⟨_, _, _, _, _, Tryz.underlying61, rfl, ti23, rfl, rfl⟩
 ·cases h; exact ⟨_, _, _, _, _, Tryz.underlying65, rfl, ti22, rfl, rfl⟩
 ·cases h; exact ⟨_, _, _, _, _, Tryz.underlying65, rfl, ti23, rfl, rfl⟩
 ·cases h; exact ⟨_, _, _, _, _, Tryz.underlying65, rfl, ti23, rfl, rfl⟩
 ·cases h; exact ⟨_, _, _, _, _, Tryz.underlying65, rfl, ti59, rfl, rfl⟩
 ·cases h; exact ⟨_, _, _, _, _, Tryz.underlying65, rfl, ti62, rfl, rfl⟩
 ·cases h; exact ⟨_, _, _, _, _, Tryz.underlying78, rfl, ti9, rfl, rfl⟩
 ·cases h; exact ⟨_, _, _, _, _, Tryz.underlying78, rfl, ti28, rfl, rfl⟩
 ·cases h; exact ⟨_, _, _, _, _, Tryz.underlying78, rfl, ti42, rfl, rfl⟩
 ·cases h; exact ⟨_, _, _, _, _, Tryz.underlying82, rfl, ti4, rfl, rfl⟩
 ·cases h; exact ⟨_, _, _, _, _, Tryz.underlying82, rfl, ti4, rfl, rfl⟩
 ·cases h; exact ⟨_, _, _, _, _, Tryz.underlying82, rfl, ti9, rfl, rfl⟩
 ·cases h; exact ⟨_, _, _, _, _, Tryz.underlying84, rfl, ti4, rfl, rfl⟩
 ·cases h; exact ⟨_, _, _, _, _, Tryz.underlying84, rfl, ti82, rfl, rfl⟩
 ·cases h; exact ⟨_, _, _, _, _, Tryz.underlying87, rfl, ti4, rfl, rfl⟩
 ·cases h; exact ⟨_, _, _, _, _, Tryz.underlying87, rfl, ti4, rfl, rfl⟩
 ·cases h; exact ⟨_, _, _, _, _, Tryz.underlying87, rfl, ti4, rfl, rfl⟩
 ·cases h; exact ⟨_, _, _, _, _, Tryz.underlying87, rfl, ti52, rfl, rfl⟩
 ·cases h; exact ⟨_, _, _, _, _, Tryz.underlying87, rfl, ti55, rfl, rfl⟩
 ·cases h; exact ⟨_, _, _, _, _, Tryz.underlying92, rfl, ti4, rfl, rfl⟩
 ·cases h; exact ⟨_, _, _, _, _, Tryz.underlying92, rfl, ti5, rfl, rfl⟩
 ·cases h; exact ⟨_, _, _, _, _, Tryz.underlying100, rfl, ti97, rfl, rfl⟩
 ·cases h; exact ⟨_, _, _, _, _, Tryz.underlying100, rfl, ti98, rfl, rfl⟩
 ·cases h; exact ⟨_, _, _, _, _, Tryz.underlying107, rfl, ti3, rfl, rfl⟩
 ·cases h; exact ⟨_, _, _, _, _, Tryz.underlying107, rfl, ti3, rfl, rfl⟩
 ·cases h; exact ⟨_, _, _, _, _, Tryz.underlying107, rfl, ti3, rfl, rfl⟩
 ·cases h; exact ⟨_, _, _, _, _, Tryz.underlying107, rfl, ti3, rfl, rfl⟩
 ·cases h; exact ⟨_, _, _, _, _, Tryz.underlying107, rfl, ti3, rfl, rfl⟩
 ·cases h; exact ⟨_, _, _, _, _, Tryz.underlying107, rfl, ti23, rfl, rfl⟩
 ·cases h; exact ⟨_, _, _, _, _, Tryz.underlying107, rfl, ti105, rfl, rfl⟩
 ·cases h; exact ⟨_, _, _, _, _, Tryz.underlying110, rfl, ti108, rfl, rfl⟩
 ·cases h; exact ⟨_, _, _, _, _, Tryz.underlying120, rfl, ti3, rfl, rfl⟩
 ·cases h; exact ⟨_, _, _, _, _, Tryz.underlying120, rfl, ti4, rfl, rfl⟩
 ·cases h; exact ⟨_, _, _, _, _, Tryz.underlying120, rfl, ti9, rfl, rfl⟩
 ·cases h; exact ⟨_, _, _, _, _, Tryz.underlying120, rfl, ti9, rfl, rfl⟩
 ·cases h; exact ⟨_, _, _, _, _, Tryz.underlying120, rfl, ti73, rfl, rfl⟩
 ·cases h; exact ⟨_, _, _, _, _, Tryz.underlying135, rfl, ti3, rfl, rfl⟩
 ·cases h; exact ⟨_, _, _, _, _, Tryz.underlying135, rfl, ti3, rfl, rfl⟩
 ·cases h; exact ⟨_, _, _, _, _, Tryz.underlying135, rfl, ti9, rfl, rfl⟩
 ·cases h; exact ⟨_, _, _, _, _, Tryz.underlying135, rfl, ti133, rfl, rfl⟩
 ·cases h; exact ⟨_, _, _, _, _, Tryz.underlying166, rfl, ti2, rfl, rfl⟩
 ·cases h; exact ⟨_, _, _, _, _, Tryz.underlying166, rfl, ti9, rfl, rfl⟩
 ·cases h; exact ⟨_, _, _, _, _, Tryz.underlying195, rfl, ti22, rfl, rfl⟩
 ·cases h; exact ⟨_, _, _, _, _, Tryz.underlying195, rfl, ti161, rfl, rfl⟩
 ·cases h; exact ⟨_, _, _, _, _, Tryz.underlying203, rfl, ti3, rfl, rfl⟩
 ·cases h; exact ⟨_, _, _, _, _, Tryz.underlying203, rfl, ti28, rfl, rfl⟩
 ·cases h; exact ⟨_, _, _, _, _, Tryz.underlying205, rfl, ti3, rfl, rfl⟩
 ·cases h; exact ⟨_, _, _, _, _, Tryz.underlying205, rfl, ti9, rfl, rfl⟩
 ·cases h; exact ⟨_, _, _, _, _, Tryz.underlying205, rfl, ti203, rfl, rfl⟩
 ·cases h; exact ⟨_, _, _, _, _, Tryz.underlying212, rfl, ti2, rfl, rfl⟩
 ·cases h; exact ⟨_, _, _, _, _, Tryz.underlying212, rfl, ti9, rfl, rfl⟩
 ·cases h; exact ⟨_, _, _, _, _, Tryz.underlying212, rfl, ti9, rfl, rfl⟩
 ·cases h; exact ⟨_, _, _, _, _, Tryz.underlying212, rfl, ti210, rfl, rfl⟩
 ·cases h; exact ⟨_, _, _, _, _, Tryz.underlying217, rfl, ti2, rfl, rfl⟩
 ·cases h; exact ⟨_, _, _, _, _, Tryz.underlying217, rfl, ti3, rfl, rfl⟩
 ·cases h; exact ⟨_, _, _, _, _, Tryz.underlying217, rfl, ti9, rfl, rfl⟩
 ·cases h; exact ⟨_, _, _, _, _, Tryz.underlying222, rfl, ti28, rfl, rfl⟩
 ·cases h; exact ⟨_, _, _, _, _, Tryz.underlying222, rfl, ti214, rfl, rfl⟩
 ·cases h; exact ⟨_, _, _, _, _, Tryz.underlying222, rfl, ti217, rfl, rfl⟩
 ·cases h; exact ⟨_, _, _, _, _, Tryz.underlying222, rfl, ti217, rfl, rfl⟩
 ·cases h; exact ⟨_, _, _, _, _, Tryz.underlying264, rfl, ti5, rfl, rfl⟩
 ·cases h; exact ⟨_, _, _, _, _, Tryz.underlying264, rfl, ti5, rfl, rfl⟩
 ·cases h; exact ⟨_, _, _, _, _, Tryz.underlying264, rfl, ti9, rfl, rfl⟩
 ·cases h⟩
instance : LT Tryz.prog 2 := ⟨_, Tryz.underlying2, rfl⟩
instance : LT Tryz.prog 3 := ⟨_, Tryz.underlying3, rfl⟩
instance : LT Tryz.prog 4 := ⟨_, Tryz.underlying4, rfl⟩
instance : LT Tryz.prog 5 := ⟨_, Tryz.underlying5, rfl⟩
instance : LT Tryz.prog 9 := ⟨_, Tryz.underlying9, rfl⟩
instance : LT Tryz.prog 22 := ⟨_, Tryz.underlying22, rfl⟩
instance : LT Tryz.prog 23 := ⟨_, Tryz.underlying23, rfl⟩
instance : LT Tryz.prog 28 := ⟨_, Tryz.underlying28, rfl⟩
instance : LT Tryz.prog 32 := ⟨_, Tryz.underlying32, rfl⟩
instance : LT Tryz.prog 42 := ⟨_, Tryz.underlying42, rfl⟩
instance : LT Tryz.prog 43 := ⟨_, Tryz.underlying43, rfl⟩
instance : LT Tryz.prog 51 := ⟨_, Tryz.underlying51, rfl⟩
instance : LT Tryz.prog 52 := ⟨_, Tryz.underlying52, rfl⟩
instance : LT Tryz.prog 55 := ⟨_, Tryz.underlying55, rfl⟩
instance : LT Tryz.prog 59 := ⟨_, Tryz.underlying59, rfl⟩
instance : LT Tryz.prog 62 := ⟨_, Tryz.underlying62, rfl⟩
instance : LT Tryz.prog 73 := ⟨_, Tryz.underlying73, rfl⟩
instance : LT Tryz.prog 85 := ⟨_, Tryz.underlying85, rfl⟩
instance : LT Tryz.prog 97 := ⟨_, Tryz.underlying97, rfl⟩
instance : LT Tryz.prog 98 := ⟨_, Tryz.underlying98, rfl⟩
instance : LT Tryz.prog 105 := ⟨_, Tryz.underlying105, rfl⟩
instance : LT Tryz.prog 108 := ⟨_, Tryz.underlying108, rfl⟩
instance : LT Tryz.prog 133 := ⟨_, Tryz.underlying133, rfl⟩
instance : LT Tryz.prog 161 := ⟨_, Tryz.underlying161, rfl⟩
instance : LT Tryz.prog 190 := ⟨_, Tryz.underlying190, rfl⟩
instance : LT Tryz.prog 210 := ⟨_, Tryz.underlying210, rfl⟩
instance : LT Tryz.prog 214 := ⟨_, Tryz.underlying214, rfl⟩
instance : FnOk Tryz.prog 4 := ⟨_, Tryz.func4, by kernel_rfl, rfl⟩
instance : FnOk Tryz.prog 5 := ⟨_, Tryz.func5, by kernel_rfl, rfl⟩
instance : FnOk Tryz.prog 6 := ⟨_, Tryz.func6, by kernel_rfl, rfl⟩
instance : FnOk Tryz.prog 7 := ⟨_, Tryz.func7, by kernel_rfl, rfl⟩
instance : FnOk Tryz.prog 8 := ⟨_, Tryz.func8, by kernel_rfl, rfl⟩
instance : FnOk Tryz.prog 9 := ⟨_, Tryz.func9, by kernel_rfl, rfl⟩
instance : FnOk Tryz.prog 10 := ⟨_, Tryz.func10, by kernel_rfl, rfl⟩
instance : FnOk Tryz.prog 11 := ⟨_, Tryz.func11, by kernel_rfl, rfl⟩
instance : FnOk Tryz.prog 12 := ⟨_, Tryz.func12, by kernel_rfl, rfl⟩
instance : FnOk Tryz.prog 13 := ⟨_, Tryz.func13, by kernel_rfl, rfl⟩
instance : FnOk Tryz.prog 14 := ⟨_, Tryz.func14, by kernel_rfl, rfl⟩
instance : FnOk Tryz.prog 15 := ⟨_, Tryz.func15, by kernel_rfl, rfl⟩
instance : FnOk Tryz.prog 16 := ⟨_, Tryz.func16, by kernel_rfl, rfl⟩
instance : FnOk Tryz.prog 17 := ⟨_, Tryz.func17, by kernel_rfl, rfl⟩
instance : FnOk Tryz.prog 18 := ⟨_, Tryz.func18, by kernel_rfl, rfl⟩
instance : FnOk Tryz.prog 19 := ⟨_, Tryz.func19, by kernel_rfl, rfl⟩
instance : FnOk Tryz.prog 20 := ⟨_, Tryz.func20, by kernel_rfl, rfl⟩
instance : FnOk Tryz.prog 21 := ⟨_, Tryz.func21, by kernel_rfl, rfl⟩
instance : FnOk Tryz.prog 22 := ⟨_, Tryz.func22, by kernel_rfl, rfl⟩
instance : FnOk Tryz.prog 24 := ⟨_, Tryz.func24, by kernel_rfl, rfl⟩
instance : FnOk Tryz.prog 25 := ⟨_, Tryz.func25, by kernel_rfl, rfl⟩
instance : FnOk Tryz.prog 26 := ⟨_, Tryz.func26, by kernel_rfl, rfl⟩
instance : FnOk Tryz.prog 27 := ⟨_, Tryz.func27, by kernel_rfl, rfl⟩
instance : FnOk Tryz.prog 28 := ⟨_, Tryz.func28, by kernel_rfl, rfl⟩
instance : FnOk Tryz.prog 29 := ⟨_, Tryz.func29, by kernel_rfl, rfl⟩
instance : FnOk Tryz.prog 30 := ⟨_, Tryz.func30, by kernel_rfl, rfl⟩
instance : FnOk Tryz.prog 31 := ⟨_, Tryz.func31, by kernel_rfl, rfl⟩
instance : FnOk Tryz.prog 32 := ⟨_, Tryz.func32, by kernel_rfl, rfl⟩
instance : FnOk Tryz.prog 33 := ⟨_, Tryz.func33, by kernel_rfl, rfl⟩
instance : FnOk Tryz.prog 34 := ⟨_, Tryz.func34, by kernel_rfl, rfl⟩
instance : FnOk Tryz.prog 35 := ⟨_, Tryz.func35, by kernel_rfl, rfl⟩
instance : FnOk Tryz.prog 36 := ⟨_, Tryz.func36, by kernel_rfl, rfl⟩
instance : FnOk Tryz.prog 37 := ⟨_, Tryz.func37, by kernel_rfl, rfl⟩
instance : FnOk Tryz.prog 38 := ⟨_, Tryz.func38, by kernel_rfl, rfl⟩
instance : FnOk Tryz.prog 40 := ⟨_, Tryz.func40, by kernel_rfl, rfl⟩
instance : FnOk Tryz.prog 41 := ⟨_, Tryz.func41, by kernel_rfl, rfl⟩
instance : FnOk Tryz.prog 42 := ⟨_, Tryz.func42, by kernel_rfl, rfl⟩
instance : FnOk Tryz.prog 43 := ⟨_, Tryz.func43, by kernel_rfl, rfl⟩
instance : FnOk Tryz.prog 44 := ⟨_, Tryz.func44, by kernel_rfl, rfl⟩
instance : FnOk Tryz.prog 45 := ⟨_, Tryz.func45, by kernel_rfl, rfl⟩
instance : FnOk Tryz.prog 46 := ⟨_, Tryz.func46, by kernel_rfl, rfl⟩
instance : FnOk Tryz.prog 47 := ⟨_, Tryz.func47, by kernel_rfl, rfl⟩
instance : FnOk Tryz.prog 48 := ⟨_, Tryz.func48, by kernel_rfl, rfl⟩
instance : FnOk Tryz.prog 49 := ⟨_, Tryz.func49, by kernel_rfl, rfl⟩
instance : FnOk Tryz.prog 50 := ⟨_, Tryz.func50, by kernel_rfl, rfl⟩
instance : FnOk Tryz.prog 51 := ⟨_, Tryz.func51, by kernel_rfl, rfl⟩
instance : FnOk Tryz.prog 52 := ⟨_, Tryz.func52, by kernel_rfl, rfl⟩
instance : FnOk Tryz.prog 53 := ⟨_, Tryz.func53, by kernel_rfl, rfl⟩
instance : FnOk Tryz.prog 54 := ⟨_, Tryz.func54, by kernel_rfl, rfl⟩
instance : FnOk Tryz.prog 55 := ⟨_, Tryz.func55, by kernel_rfl, rfl⟩
instance : FnOk Tryz.prog 56 := ⟨_, Tryz.func56, by kernel_rfl, rfl⟩
instance : FnOk Tryz.prog 59 := ⟨_, Tryz.func59, by kernel_rfl, rfl⟩
instance : FnOk Tryz.prog 60 := ⟨_, Tryz.func60, by kernel_rfl, rfl⟩
instance : FnOk Tryz.prog 61 := ⟨_, Tryz.func61, by kernel_rfl, rfl⟩
instance : FnOk Tryz.prog 62 := ⟨_, Tryz.func62, by kernel_rfl, rfl⟩
instance : FnOk Tryz.prog 63 := ⟨_, Tryz.func63, by kernel_rfl, rfl⟩
instance : FnOk Tryz.prog 64 := ⟨_, Tryz.func64, by kernel_rfl, rfl⟩
instance : FnOk Tryz.prog 65 := ⟨_, Tryz.func65, by kernel_rfl, rfl⟩
instance : FnOk Tryz.prog 66 := ⟨_, Tryz.func66, by kernel_rfl, rfl⟩
instance : FnOk Tryz.prog 67 := ⟨_, Tryz.func67, by kernel_rfl, rfl⟩
instance : FnOk Tryz.prog 68 := ⟨_, Tryz.func68, by kernel_rfl, rfl⟩
instance : FnOk Tryz.prog 69 := ⟨_, Tryz.func69, by kernel_rfl, rfl⟩
instance : FnOk Tryz.prog 70 := ⟨_, Tryz.func70, by kernel_rfl, rfl⟩
instance : FnOk Tryz.prog 71 := ⟨_, Tryz.func71, by kernel_rfl, rfl⟩
instance : FnOk Tryz.prog 72 := ⟨_, Tryz.func72, by kernel_rfl, rfl⟩
instance : FnOk Tryz.prog 73 := ⟨_, Tryz.func73, by kernel_rfl, rfl⟩
instance : FnOk Tryz.prog 74 := ⟨_, Tryz.func74, by kernel_rfl, rfl⟩
instance : FnOk Tryz.prog 75 := ⟨_, Tryz.func75, by kernel_rfl, rfl⟩
instance : FnOk Tryz.prog 76 := ⟨_, Tryz.func76, by kernel_rfl, rfl⟩
instance : FnOk Tryz.prog 77 := ⟨_, Tryz.func77, by kernel_rfl, rfl⟩
instance : FnOk Tryz.prog 78 := ⟨_, Tryz.func78, by kernel_rfl, rfl⟩
instance : FnOk Tryz.prog 83 := ⟨_, Tryz.func83, by kernel_rfl, rfl⟩
instance : FnOk Tryz.prog 84 := ⟨_, Tryz.func84, by kernel_rfl, rfl⟩
instance : FnOk Tryz.prog 85 := ⟨_, Tryz.func85, by kernel_rfl, rfl⟩
instance : FnOk Tryz.prog 86 := ⟨_, Tryz.func86, by kernel_rfl, rfl⟩
instance : FnOk Tryz.prog 87 := ⟨_, Tryz.func87, by kernel_rfl, rfl⟩
instance : FnOk Tryz.prog 88 := ⟨_, Tryz.func88, by kernel_rfl, rfl⟩
instance : FnOk Tryz.prog 89 := ⟨_, Tryz.func89, by kernel_rfl, rfl⟩
instance : FnOk Tryz.prog 90 := ⟨_, Tryz.func90, by kernel_rfl, rfl⟩
instance : FnOk Tryz.prog 92 := ⟨_, Tryz.func92, by kernel_rfl, rfl⟩
instance : FnOk Tryz.prog 93 := ⟨_, Tryz.func93, by kernel_rfl, rfl⟩
instance : FnOk Tryz.prog 94 := ⟨_, Tryz.func94, by kernel_rfl, rfl⟩
instance : FnOk Tryz.prog 95 := ⟨_, Tryz.func95, by kernel_rfl, rfl⟩
instance : FnOk Tryz.prog 98 := ⟨_, Tryz.func98, by kernel_rfl, rfl⟩
instance : FnOk Tryz.prog 99 := ⟨_, Tryz.func99, by kernel_rfl, rfl⟩
instance : FnOk Tryz.prog 100 := ⟨_, Tryz.func100, by kernel_rfl, rfl⟩
instance : FnOk Tryz.prog 104 := ⟨_, Tryz.func104, by kernel_rfl, rfl⟩
instance : FnOk Tryz.prog 105 := ⟨_, Tryz.func105, by kernel_rfl, rfl⟩
instance : FnOk Tryz.prog 106 := ⟨_, Tryz.func106, by kernel_rfl, rfl⟩
instance : FnOk Tryz.prog 107 := ⟨_, Tryz.func107, by kernel_rfl, rfl⟩
instance : FnOk Tryz.prog 108 := ⟨_, Tryz.func108, by kernel_rfl, rfl⟩
instance : FnOk Tryz.prog 109 := ⟨_, Tryz.func109, by kernel_rfl, rfl⟩
instance : FnOk Tryz.prog 113 := ⟨_, Tryz.func113, by kernel_rfl, rfl⟩
instance : FnOk Tryz.prog 115 := ⟨_, Tryz.func115, by kernel_rfl, rfl⟩
instance : FnOk Tryz.prog 116 := ⟨_, Tryz.func116, by kernel_rfl, rfl⟩
instance : FnOk Tryz.prog 117 := ⟨_, Tryz.func117, by kernel_rfl, rfl⟩
instance : FnOk Tryz.prog 118 := ⟨_, Tryz.func118, by kernel_rfl, rfl⟩
instance : FnOk Tryz.prog 119 := ⟨_, Tryz.func119, by kernel_rfl, rfl⟩
instance : FnOk Tryz.prog 120 := ⟨_, Tryz.func120, by kernel_rfl, rfl⟩
instance : FnOk Tryz.prog 121 := ⟨_, Tryz.func121, by kernel_rfl, rfl⟩
instance : FnOk Tryz.prog 122 := ⟨_, Tryz.func122, by kernel_rfl, rfl⟩
instance : FnOk Tryz.prog 123 := ⟨_, Tryz.func123, by kernel_rfl, rfl⟩
instance : FnOk Tryz.prog 124 := ⟨_, Tryz.func124, by kernel_rfl, rfl⟩
instance : FnOk Tryz.prog 125 := ⟨_, Tryz.func125, by kernel_rfl, rfl⟩
instance : FnOk Tryz.prog 129 := ⟨_, Tryz.func129, by kernel_rfl, rfl⟩
instance : FnOk Tryz.prog 130 := ⟨_, Tryz.func130, by kernel_rfl, rfl⟩
instance : FnOk Tryz.prog 131 := ⟨_, Tryz.func131, by kernel_rfl, rfl⟩
instance : FnOk Tryz.prog 142 := ⟨_, Tryz.func142, by kernel_rfl, rfl⟩
instance : FnOk Tryz.prog 144 := ⟨_, Tryz.func144, by kernel_rfl, rfl⟩
instance : FnOk Tryz.prog 145 := ⟨_, Tryz.func145, by kernel_rfl, rfl⟩
instance : FnOk Tryz.prog 146 := ⟨_, Tryz.func146, by kernel_rfl, rfl⟩
instance : FnOk Tryz.prog 147 := ⟨_, Tryz.func147, by kernel_rfl, rfl⟩
instance : FnOk Tryz.prog 149 := ⟨_, Tryz.func149, by kernel_rfl, rfl⟩
instance : FnOk Tryz.prog 150 := ⟨_, Tryz.func150, by kernel_rfl, rfl⟩
instance : FnOk Tryz.prog 161 := ⟨_, Tryz.func161, by kernel_rfl, rfl⟩
instance : FnOk Tryz.prog 162 := ⟨_, Tryz.func162, by kernel_rfl, rfl⟩
instance : FnOk Tryz.prog 163 := ⟨_, Tryz.func163, by kernel_rfl, rfl⟩
instance : FnOk Tryz.prog 164 := ⟨_, Tryz.func164, by kernel_rfl, rfl⟩
instance : FnOk Tryz.prog 171 := ⟨_, Tryz.func171, by kernel_rfl, rfl⟩
instance : FnOk Tryz.prog 172 := ⟨_, Tryz.func172, by kernel_rfl, rfl⟩
instance : FnOk Tryz.prog 197 := ⟨_, Tryz.func197, by kernel_rfl, rfl⟩
instance : FnOk Tryz.prog 199 := ⟨_, Tryz.func199, by kernel_rfl, rfl⟩
instance : FnOk Tryz.prog 200 := ⟨_, Tryz.func200, by kernel_rfl, rfl⟩
instance : FnOk Tryz.prog 201 := ⟨_, Tryz.func201, by kernel_rfl, rfl⟩
abbrev un2 := Tryz.underlying2
abbrev un3 := Tryz.underlying3
abbrev un4 := Tryz.underlying4
abbrev un5 := Tryz.underlying5
abbrev un9 := Tryz.underlying9
abbrev un22 := Tryz.underlying22
abbrev un23 := Tryz.underlying23
abbrev un25 := Tryz.underlying25
abbrev un28 := Tryz.underlying28
abbrev un31 := Tryz.underlying31
abbrev un35 := Tryz.underlying35
abbrev un39 := Tryz.underlying39
abbrev un40 := Tryz.underlying40
abbrev un43 := Tryz.underlying43
abbrev un51 := Tryz.underlying51
abbrev un52 := Tryz.underlying52
abbrev un55 := Tryz.underlying55
abbrev un61 := Tryz.underlying61
abbrev un65 := Tryz.underlying65
abbrev un73 := Tryz.underlying73
abbrev un78 := Tryz.underlying78
abbrev un82 := Tryz.underlying82
abbrev un84 := Tryz.underlying84
abbrev un87 := Tryz.underlying87
abbrev un92 := Tryz.underlying92
abbrev un97 := Tryz.underlying97
abbrev un98 := Tryz.underlying98
abbrev un105 := Tryz.underlying105
abbrev un107 := Tryz.underlying107
abbrev un108 := Tryz.underlying108
abbrev un110 := Tryz.underlying110
abbrev un120 := Tryz.underlying120
abbrev un124 := Tryz.underlying124
abbrev un133 := Tryz.underlying133
abbrev un135 := Tryz.underlying135
abbrev un143 := Tryz.underlying143
abbrev un161 := Tryz.underlying161
abbrev un166 := Tryz.underlying166
abbrev un195 := Tryz.underlying195
abbrev un203 := Tryz.underlying203
abbrev un205 := Tryz.underlying205
abbrev un210 := Tryz.underlying210
abbrev un212 := Tryz.underlying212
abbrev un214 := Tryz.underlying214
abbrev un217 := Tryz.underlying217
abbrev un222 := Tryz.underlying222
abbrev un264 := Tryz.underlying264
end Go.Tri
