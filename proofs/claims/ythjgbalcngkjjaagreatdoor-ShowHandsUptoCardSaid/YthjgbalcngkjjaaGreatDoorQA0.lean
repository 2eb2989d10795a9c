/-
 Types of the program and their rows.
-/
import Derived.Test.YthjgbalcngkjjaaGreatDoorTriZ
import Derived.Test.YthjgbalcngkjjaaGreatDoorPLex5
import Derived.Test.YthjgbalcngkjjaaGreatDoorProg
namespace Go.Tri
open Go.Proofs Go.RowKit
theorem mo : Tryz.prog.follows .mixedOrders = true := by kernel_rfl
theorem B0 : TI Tryz.prog 3 1 8 (.int .i64 0) := Ej (by kernel_rfl)
theorem De : TI Tryz.prog 4 1 1 (.bool false) := Ej (by kernel_rfl)
theorem UY : TI Tryz.prog 5 1 1 (.int .u8 0) := Ej (by kernel_rfl)
theorem CU : TI Tryz.prog 9 1 16 (Bj []) := Ej (by kernel_rfl)
theorem EE : TI Tryz.prog 22 1 24 (.slice none 0 0) := Ej (by kernel_rfl)
theorem El : TI Tryz.prog 23 1 24 (.slice none 0 0) := Ej (by kernel_rfl)
theorem D6 : TI Tryz.prog 24 1 24 (.slice none 0 0) := Ej (by kernel_rfl)
theorem Ab : TI Tryz.prog 26 7 104 (.agg #[.int .i64 0, .bool false, .bool false, Bj [], .slice none 0 0, .slice none 0 0, .slice none 0 0]) := Ej (by kernel_rfl)
theorem Mp : TI Tryz.prog 29 1 8 (.int .i64 0) := Ej (by kernel_rfl)
theorem D1 : TI Tryz.prog 37 5 64 (.agg #[.int .i64 0, Bj [], Bj [], Bj [], .bool false]) := Ej (by kernel_rfl)
theorem AEd : TI Tryz.prog 39 1 8 (.pointer none) := Ej (by kernel_rfl)
theorem AEA : TI Tryz.prog 40 1 24 (.slice none 0 0) := Ej (by kernel_rfl)
theorem QP : TI Tryz.prog 42 2 32 (.agg #[.pointer none, .slice none 0 0]) := Ej (by kernel_rfl)
theorem ACS : TI Tryz.prog 43 1 24 (.slice none 0 0) := Ej (by kernel_rfl)
theorem ALc : TI Tryz.prog 45 4 64 (.agg #[.pointer none, .slice none 0 0, .slice none 0 0, .bool false]) := Ej (by kernel_rfl)
theorem W4 : TI Tryz.prog 53 2 16 (.agg #[.int .i64 0, .int .i64 0]) := Ej (by kernel_rfl)
theorem UM : TI Tryz.prog 56 1 24 (.slice none 0 0) := Ej (by kernel_rfl)
theorem ANq : TI Tryz.prog 58 3 48 (.agg #[Bj [], .slice none 0 0, .int .i64 0]) := Ej (by kernel_rfl)
theorem ANQ : TI Tryz.prog 71 6 72 (.agg #[Bj [], .slice none 0 0, .int .i64 0, .int .i64 0, .int .i64 0, .int .i64 0]) := Ej (by kernel_rfl)
theorem BL : TI Tryz.prog 73 5 56 (.agg #[.int .i64 0, Bj [], .int .i64 0, Bj [], .bool false]) := Ej (by kernel_rfl)
theorem B8 : TI Tryz.prog 91 3 24 (.agg #[.int .i64 0, .int .i64 0, .int .i64 0]) := Ej (by kernel_rfl)
theorem Vs : TI Tryz.prog 106 2 16 (.agg #[.int .i64 0, .int .i64 0]) := Ej (by kernel_rfl)
theorem AIZ : TI Tryz.prog 108 4 40 (.agg #[Bj [], .int .i64 0, .int .i64 0, .int .i64 0]) := Ej (by kernel_rfl)
theorem ADW : TI Tryz.prog 114 1 8 (.map none) := Ej (by kernel_rfl)
def fo : Nat → Nat → Option Nat
 | 26, 0 => some 0
 | 26, 1 => some 1
 | 26, 2 => some 2
 | 26, 3 => some 3
 | 26, 4 => some 4
 | 26, 5 => some 5
 | 26, 6 => some 6
 | 37, 0 => some 0
 | 37, 1 => some 1
 | 37, 2 => some 2
 | 37, 3 => some 3
 | 37, 4 => some 4
 | 42, 0 => some 0
 | 42, 1 => some 1
 | 45, 0 => some 0
 | 45, 1 => some 2
 | 45, 2 => some 3
 | 53, 0 => some 0
 | 53, 1 => some 1
 | 58, 0 => some 0
 | 58, 1 => some 1
 | 58, 2 => some 2
 | 71, 0 => some 0
 | 71, 1 => some 1
 | 71, 2 => some 2
 | 71, 3 => some 3
 | 71, 4 => some 4
 | 71, 5 => some 5
 | 73, 0 => some 0
 | 73, 1 => some 1
 | 73, 2 => some 2
 | 73, 3 => some 3
 | 73, 4 => some 4
 | 91, 0 => some 0
 | 91, 1 => some 1
 | 91, 2 => some 2
 | 106, 0 => some 0
 | 106, 1 => some 1
 | 108, 0 => some 0
 | 108, 1 => some 1
 | 108, 2 => some 2
 | 174, 0 => some 0
 | 174, 1 => some 1
 | _, _ => none
instance : FO Tryz.prog := ⟨fo, fun t k n h => by
 unfold fo at h
 split at h
 ·cases h; exact ⟨_, _, _, _, _, Tryz.underlying26, rfl, B0, rfl, rfl⟩
 ·cases h; exact ⟨_, _, _, _, _, Tryz.underlying26, rfl, De, rfl, rfl⟩
 ·cases h; exact ⟨_, _, _, _, _, Tryz.underlying26, rfl, De, rfl, rfl⟩
 ·cases h; exact ⟨_, _, _, _, _, Tryz.underlying26, rfl, CU, rfl, rfl⟩
 ·cases h; exact ⟨_, _, _, _, _, Tryz.underlying26, rfl, EE, rfl, rfl⟩
 ·cases h; exact ⟨_, _, _, _, _, Tryz.underlying26, rfl, El, rfl, rfl⟩
 ·cases h; exact ⟨_, _, _, _, _, Tryz.underlying26, rfl, D6, rfl, rfl⟩
 ·cases h; exact ⟨_, _, _, _, _, Tryz.underlying37, rfl, B0, rfl, rfl⟩
 ·cases h; exact ⟨_, _, _, _, _, Tryz.underlying37, rfl, CU, rfl, rfl⟩
 ·cases h; exact ⟨_, _, _, _, _, Tryz.underlying37, rfl, CU, rfl, rfl⟩
 ·cases h; exact ⟨_, _, _, _, _, Tryz.underlying37, rfl, CU, rfl, rfl⟩
 ·cases h; exact ⟨_, _, _, _, _, Tryz.underlying37, rfl, De, rfl, rfl⟩
 ·cases h; exact ⟨_, _, _, _, _, Tryz.underlying42, rfl, AEd, rfl, rfl⟩
 ·cases h; exact ⟨_, _, _, _, _, Tryz.underlying42, rfl, AEA, rfl, rfl⟩
 ·cases h; exact ⟨_, _, _, _, _, Tryz.underlying45, rfl, QP, rfl, rfl⟩
 ·cases h; exact ⟨_, _, _, _, _, Tryz.underlying45, rfl, ACS, rfl, rfl⟩
 ·cases h; exact ⟨_, _, _, _, _, Tryz.underlying45, rfl, De, rfl, rfl⟩
 ·cases h; exact ⟨_, _, _, _, _, Tryz.underlying53, rfl, B0, rfl, rfl⟩
 ·cases h; exact ⟨_, _, _, _, _, Tryz.underlying53, rfl, Mp, rfl, rfl⟩
 ·cases h; exact ⟨_, _, _, _, _, Tryz.underlying58, rfl, CU, rfl, rfl⟩
 ·cases h; exact ⟨_, _, _, _, _, Tryz.underlying58, rfl, UM, rfl, rfl⟩
 ·cases h; exact ⟨_, _, _, _, _, Tryz.underlying58, rfl, B0, rfl, rfl⟩
 ·cases h; exact ⟨_, _, _, _, _, Tryz.underlying71, rfl, CU, rfl, rfl⟩
 ·cases h; exact ⟨_, _, _, _, _, Tryz.underlying71, rfl, UM, rfl, rfl⟩
 ·cases h; exact ⟨_, _, _, _, _, Tryz.underlying71, rfl, B0, rfl, rfl⟩
 ·cases h; exact ⟨_, _, _, _, _, Tryz.underlying71, rfl, B0, rfl, rfl⟩
 ·cases h; exact ⟨_, _, _, _, _, Tryz.underlying71, rfl, B0, rfl, rfl⟩
 ·cases h; exact ⟨_, _, _, _, _, Tryz.underlying71, rfl, B0, rfl, rfl⟩
 ·cases h; exact ⟨_, _, _, _, _, Tryz.underlying73, rfl, B0, rfl, rfl⟩
 ·cases h; exact ⟨_, _, _, _, _, Tryz.underlying73, rfl, CU, rfl, rfl⟩
 ·cases h; exact ⟨_, _, _, _, _, Tryz.underlying73, rfl, B0, rfl, rfl⟩
 ·cases h; exact ⟨_, _, _, _, _, Tryz.underlying73, rfl, CU, rfl, rfl⟩
 ·cases h; exact ⟨_, _, _, _, _, Tryz.underlying73, rfl, De, rfl, rfl⟩
 ·cases h; exact ⟨_, _, _, _, _, Tryz.underlying91, rfl, B0, rfl, rfl⟩
 ·cases h; exact ⟨_, _, _, _, _, Tryz.underlying91, rfl, B0, rfl, rfl⟩
 ·cases h; exact ⟨_, _, _, _, _, Tryz.underlying91, rfl, B0, rfl, rfl⟩
 ·cases h; exact ⟨_, _, _, _, _, Tryz.underlying106, rfl, B0, rfl, rfl⟩
 ·cases h; exact ⟨_, _, _, _, _, Tryz.underlying106, rfl, Mp, rfl, rfl⟩
 ·cases h; exact ⟨_, _, _, _, _, Tryz.underlying108, rfl, CU, rfl, rfl⟩
 ·cases h; exact ⟨_, _, _, _, _, Tryz.underlying108, rfl, B0, rfl, rfl⟩
 ·cases h; exact ⟨_, _, _, _, _, Tryz.underlying108, rfl, Vs, rfl, rfl⟩
 ·cases h; exact ⟨_, _, _, _, _, Tryz.underlying174, rfl, UY, rfl, rfl⟩
 ·cases h; exact ⟨_, _, _, _, _, Tryz.underlying174, rfl, UY, rfl, rfl⟩
 ·cases h⟩
instance : LT Tryz.prog 3 := ⟨_, Tryz.underlying3, rfl⟩
instance : LT Tryz.prog 4 := ⟨_, Tryz.underlying4, rfl⟩
instance : LT Tryz.prog 5 := ⟨_, Tryz.underlying5, rfl⟩
instance : LT Tryz.prog 9 := ⟨_, Tryz.underlying9, rfl⟩
instance : LT Tryz.prog 22 := ⟨_, Tryz.underlying22, rfl⟩
instance : LT Tryz.prog 23 := ⟨_, Tryz.underlying23, rfl⟩
instance : LT Tryz.prog 24 := ⟨_, Tryz.underlying24, rfl⟩
instance : LT Tryz.prog 29 := ⟨_, Tryz.underlying29, rfl⟩
instance : LT Tryz.prog 39 := ⟨_, Tryz.underlying39, rfl⟩
instance : LT Tryz.prog 40 := ⟨_, Tryz.underlying40, rfl⟩
instance : LT Tryz.prog 43 := ⟨_, Tryz.underlying43, rfl⟩
instance : LT Tryz.prog 55 := ⟨_, Tryz.underlying55, rfl⟩
instance : LT Tryz.prog 56 := ⟨_, Tryz.underlying56, rfl⟩
instance : LT Tryz.prog 85 := ⟨_, Tryz.underlying85, rfl⟩
instance : LT Tryz.prog 114 := ⟨_, Tryz.underlying114, rfl⟩
instance : LT Tryz.prog 144 := ⟨_, Tryz.underlying144, rfl⟩
instance : A9 Tryz.prog 2 := ⟨_, Tryz.func2, by kernel_rfl, rfl⟩
instance : A9 Tryz.prog 3 := ⟨_, Tryz.func3, by kernel_rfl, rfl⟩
instance : A9 Tryz.prog 4 := ⟨_, Tryz.func4, by kernel_rfl, rfl⟩
instance : A9 Tryz.prog 5 := ⟨_, Tryz.func5, by kernel_rfl, rfl⟩
instance : A9 Tryz.prog 6 := ⟨_, Tryz.func6, by kernel_rfl, rfl⟩
instance : A9 Tryz.prog 7 := ⟨_, Tryz.func7, by kernel_rfl, rfl⟩
instance : A9 Tryz.prog 8 := ⟨_, Tryz.func8, by kernel_rfl, rfl⟩
instance : A9 Tryz.prog 9 := ⟨_, Tryz.func9, by kernel_rfl, rfl⟩
instance : A9 Tryz.prog 10 := ⟨_, Tryz.func10, by kernel_rfl, rfl⟩
instance : A9 Tryz.prog 11 := ⟨_, Tryz.func11, by kernel_rfl, rfl⟩
instance : A9 Tryz.prog 12 := ⟨_, Tryz.func12, by kernel_rfl, rfl⟩
instance : A9 Tryz.prog 13 := ⟨_, Tryz.func13, by kernel_rfl, rfl⟩
instance : A9 Tryz.prog 14 := ⟨_, Tryz.func14, by kernel_rfl, rfl⟩
instance : A9 Tryz.prog 15 := ⟨_, Tryz.func15, by kernel_rfl, rfl⟩
instance : A9 Tryz.prog 16 := ⟨_, Tryz.func16, by kernel_rfl, rfl⟩
instance : A9 Tryz.prog 17 := ⟨_, Tryz.func17, by kernel_rfl, rfl⟩
instance : A9 Tryz.prog 18 := ⟨_, Tryz.func18, by kernel_rfl, rfl⟩
instance : A9 Tryz.prog 19 := ⟨_, Tryz.func19, by kernel_rfl, rfl⟩
instance : A9 Tryz.prog 20 := ⟨_, Tryz.func20, by kernel_rfl, rfl⟩
instance : A9 Tryz.prog 21 := ⟨_, Tryz.func21, by kernel_rfl, rfl⟩
instance : A9 Tryz.prog 22 := ⟨_, Tryz.func22, by kernel_rfl, rfl⟩
instance : A9 Tryz.prog 23 := ⟨_, Tryz.func23, by kernel_rfl, rfl⟩
instance : A9 Tryz.prog 24 := ⟨_, Tryz.func24, by kernel_rfl, rfl⟩
instance : A9 Tryz.prog 25 := ⟨_, Tryz.func25, by kernel_rfl, rfl⟩
instance : A9 Tryz.prog 26 := ⟨_, Tryz.func26, by kernel_rfl, rfl⟩
instance : A9 Tryz.prog 27 := ⟨_, Tryz.func27, by kernel_rfl, rfl⟩
instance : A9 Tryz.prog 28 := ⟨_, Tryz.func28, by kernel_rfl, rfl⟩
instance : A9 Tryz.prog 29 := ⟨_, Tryz.func29, by kernel_rfl, rfl⟩
instance : A9 Tryz.prog 30 := ⟨_, Tryz.func30, by kernel_rfl, rfl⟩
instance : A9 Tryz.prog 31 := ⟨_, Tryz.func31, by kernel_rfl, rfl⟩
instance : A9 Tryz.prog 32 := ⟨_, Tryz.func32, by kernel_rfl, rfl⟩
instance : A9 Tryz.prog 33 := ⟨_, Tryz.func33, by kernel_rfl, rfl⟩
instance : A9 Tryz.prog 34 := ⟨_, Tryz.func34, by kernel_rfl, rfl⟩
instance : A9 Tryz.prog 35 := ⟨_, Tryz.func35, by kernel_rfl, rfl⟩
instance : A9 Tryz.prog 36 := ⟨_, Tryz.func36, by kernel_rfl, rfl⟩
instance : A9 Tryz.prog 37 := ⟨_, Tryz.func37, by kernel_rfl, rfl⟩
instance : A9 Tryz.prog 38 := ⟨_, Tryz.func38, by kernel_rfl, rfl⟩
instance : A9 Tryz.prog 39 := ⟨_, Tryz.func39, by kernel_rfl, rfl⟩
instance : A9 Tryz.prog 40 := ⟨_, Tryz.func40, by kernel_rfl, rfl⟩
instance : A9 Tryz.prog 41 := ⟨_, Tryz.func41, by kernel_rfl, rfl⟩
instance : A9 Tryz.prog 42 := ⟨_, Tryz.func42, by kernel_rfl, rfl⟩
instance : A9 Tryz.prog 43 := ⟨_, Tryz.func43, by kernel_rfl, rfl⟩
instance : A9 Tryz.prog 44 := ⟨_, Tryz.func44, by kernel_rfl, rfl⟩
instance : A9 Tryz.prog 45 := ⟨_, Tryz.func45, by kernel_rfl, rfl⟩
instance : A9 Tryz.prog 46 := ⟨_, Tryz.func46, by kernel_rfl, rfl⟩
instance : A9 Tryz.prog 47 := ⟨_, Tryz.func47, by kernel_rfl, rfl⟩
instance : A9 Tryz.prog 48 := ⟨_, Tryz.func48, by kernel_rfl, rfl⟩
instance : A9 Tryz.prog 49 := ⟨_, Tryz.func49, by kernel_rfl, rfl⟩
instance : A9 Tryz.prog 50 := ⟨_, Tryz.func50, by kernel_rfl, rfl⟩
instance : A9 Tryz.prog 51 := ⟨_, Tryz.func51, by kernel_rfl, rfl⟩
instance : A9 Tryz.prog 52 := ⟨_, Tryz.func52, by kernel_rfl, rfl⟩
instance : A9 Tryz.prog 53 := ⟨_, Tryz.func53, by kernel_rfl, rfl⟩
instance : A9 Tryz.prog 54 := ⟨_, Tryz.func54, by kernel_rfl, rfl⟩
instance : A9 Tryz.prog 55 := ⟨_, Tryz.func55, by kernel_rfl, rfl⟩
instance : A9 Tryz.prog 56 := ⟨_, Tryz.func56, by kernel_rfl, rfl⟩
instance : A9 Tryz.prog 57 := ⟨_, Tryz.func57, by kernel_rfl, rfl⟩
instance : A9 Tryz.prog 58 := ⟨_, Tryz.func58, by kernel_rfl, rfl⟩
instance : A9 Tryz.prog 59 := ⟨_, Tryz.func59, by kernel_rfl, rfl⟩
instance : A9 Tryz.prog 60 := ⟨_, Tryz.func60, by kernel_rfl, rfl⟩
instance : A9 Tryz.prog 61 := ⟨_, Tryz.func61, by kernel_rfl, rfl⟩
instance : A9 Tryz.prog 62 := ⟨_, Tryz.func62, by kernel_rfl, rfl⟩
instance : A9 Tryz.prog 63 := ⟨_, Tryz.func63, by kernel_rfl, rfl⟩
instance : A9 Tryz.prog 64 := ⟨_, Tryz.func64, by kernel_rfl, rfl⟩
instance : A9 Tryz.prog 65 := ⟨_, Tryz.func65, by kernel_rfl, rfl⟩
instance : A9 Tryz.prog 66 := ⟨_, Tryz.func66, by kernel_rfl, rfl⟩
instance : A9 Tryz.prog 67 := ⟨_, Tryz.func67, by kernel_rfl, rfl⟩
instance : A9 Tryz.prog 68 := ⟨_, Tryz.func68, by kernel_rfl, rfl⟩
instance : A9 Tryz.prog 69 := ⟨_, Tryz.func69, by kernel_rfl, rfl⟩
instance : A9 Tryz.prog 70 := ⟨_, Tryz.func70, by kernel_rfl, rfl⟩
instance : A9 Tryz.prog 71 := ⟨_, Tryz.func71, by kernel_rfl, rfl⟩
instance : A9 Tryz.prog 72 := ⟨_, Tryz.func72, by kernel_rfl, rfl⟩
instance : A9 Tryz.prog 73 := ⟨_, Tryz.func73, by kernel_rfl, rfl⟩
instance : A9 Tryz.prog 75 := ⟨_, Tryz.func75, by kernel_rfl, rfl⟩
instance : A9 Tryz.prog 76 := ⟨_, Tryz.func76, by kernel_rfl, rfl⟩
instance : A9 Tryz.prog 77 := ⟨_, Tryz.func77, by kernel_rfl, rfl⟩
instance : A9 Tryz.prog 78 := ⟨_, Tryz.func78, by kernel_rfl, rfl⟩
instance : A9 Tryz.prog 79 := ⟨_, Tryz.func79, by kernel_rfl, rfl⟩
instance : A9 Tryz.prog 80 := ⟨_, Tryz.func80, by kernel_rfl, rfl⟩
instance : A9 Tryz.prog 81 := ⟨_, Tryz.func81, by kernel_rfl, rfl⟩
instance : A9 Tryz.prog 82 := ⟨_, Tryz.func82, by kernel_rfl, rfl⟩
instance : A9 Tryz.prog 83 := ⟨_, Tryz.func83, by kernel_rfl, rfl⟩
instance : A9 Tryz.prog 84 := ⟨_, Tryz.func84, by kernel_rfl, rfl⟩
instance : A9 Tryz.prog 85 := ⟨_, Tryz.func85, by kernel_rfl, rfl⟩
instance : A9 Tryz.prog 86 := ⟨_, Tryz.func86, by kernel_rfl, rfl⟩
instance : A9 Tryz.prog 87 := ⟨_, Tryz.func87, by kernel_rfl, rfl⟩
instance : A9 Tryz.prog 88 := ⟨_, Tryz.func88, by kernel_rfl, rfl⟩
instance : A9 Tryz.prog 89 := ⟨_, Tryz.func89, by kernel_rfl, rfl⟩
instance : A9 Tryz.prog 90 := ⟨_, Tryz.func90, by kernel_rfl, rfl⟩
instance : A9 Tryz.prog 91 := ⟨_, Tryz.func91, by kernel_rfl, rfl⟩
instance : A9 Tryz.prog 92 := ⟨_, Tryz.func92, by kernel_rfl, rfl⟩
instance : A9 Tryz.prog 94 := ⟨_, Tryz.func94, by kernel_rfl, rfl⟩
instance : A9 Tryz.prog 95 := ⟨_, Tryz.func95, by kernel_rfl, rfl⟩
instance : A9 Tryz.prog 96 := ⟨_, Tryz.func96, by kernel_rfl, rfl⟩
instance : A9 Tryz.prog 97 := ⟨_, Tryz.func97, by kernel_rfl, rfl⟩
instance : A9 Tryz.prog 98 := ⟨_, Tryz.func98, by kernel_rfl, rfl⟩
instance : A9 Tryz.prog 99 := ⟨_, Tryz.func99, by kernel_rfl, rfl⟩
instance : A9 Tryz.prog 100 := ⟨_, Tryz.func100, by kernel_rfl, rfl⟩
instance : A9 Tryz.prog 101 := ⟨_, Tryz.func101, by kernel_rfl, rfl⟩
instance : A9 Tryz.prog 102 := ⟨_, Tryz.func102, by kernel_rfl, rfl⟩
instance : A9 Tryz.prog 103 := ⟨_, Tryz.func103, by kernel_rfl, rfl⟩
instance : A9 Tryz.prog 104 := ⟨_, Tryz.func104, by kernel_rfl, rfl⟩
instance : A9 Tryz.prog 105 := ⟨_, Tryz.func105, by kernel_rfl, rfl⟩
instance : A9 Tryz.prog 106 := ⟨_, Tryz.func106, by kernel_rfl, rfl⟩
instance : A9 Tryz.prog 107 := ⟨_, Tryz.func107, by kernel_rfl, rfl⟩
instance : A9 Tryz.prog 108 := ⟨_, Tryz.func108, by kernel_rfl, rfl⟩
instance : A9 Tryz.prog 109 := ⟨_, Tryz.func109, by kernel_rfl, rfl⟩
instance : A9 Tryz.prog 110 := ⟨_, Tryz.func110, by kernel_rfl, rfl⟩
instance : A9 Tryz.prog 111 := ⟨_, Tryz.func111, by kernel_rfl, rfl⟩
instance : A9 Tryz.prog 112 := ⟨_, Tryz.func112, by kernel_rfl, rfl⟩
instance : A9 Tryz.prog 113 := ⟨_, Tryz.func113, by kernel_rfl, rfl⟩
instance : A9 Tryz.prog 114 := ⟨_, Tryz.func114, by kernel_rfl, rfl⟩
instance : A9 Tryz.prog 115 := ⟨_, Tryz.func115, by kernel_rfl, rfl⟩
instance : A9 Tryz.prog 116 := ⟨_, Tryz.func116, by kernel_rfl, rfl⟩
instance : A9 Tryz.prog 117 := ⟨_, Tryz.func117, by kernel_rfl, rfl⟩
instance : A9 Tryz.prog 118 := ⟨_, Tryz.func118, by kernel_rfl, rfl⟩
instance : A9 Tryz.prog 119 := ⟨_, Tryz.func119, by kernel_rfl, rfl⟩
instance : A9 Tryz.prog 120 := ⟨_, Tryz.func120, by kernel_rfl, rfl⟩
instance : A9 Tryz.prog 121 := ⟨_, Tryz.func121, by kernel_rfl, rfl⟩
instance : A9 Tryz.prog 122 := ⟨_, Tryz.func122, by kernel_rfl, rfl⟩
instance : A9 Tryz.prog 123 := ⟨_, Tryz.func123, by kernel_rfl, rfl⟩
instance : A9 Tryz.prog 124 := ⟨_, Tryz.func124, by kernel_rfl, rfl⟩
instance : A9 Tryz.prog 125 := ⟨_, Tryz.func125, by kernel_rfl, rfl⟩
instance : A9 Tryz.prog 126 := ⟨_, Tryz.func126, by kernel_rfl, rfl⟩
instance : A9 Tryz.prog 127 := ⟨_, Tryz.func127, by kernel_rfl, rfl⟩
instance : A9 Tryz.prog 128 := ⟨_, Tryz.func128, by kernel_rfl, rfl⟩
instance : A9 Tryz.prog 129 := ⟨_, Tryz.func129, by kernel_rfl, rfl⟩
instance : A9 Tryz.prog 131 := ⟨_, Tryz.func131, by kernel_rfl, rfl⟩
instance : A9 Tryz.prog 132 := ⟨_, Tryz.func132, by kernel_rfl, rfl⟩
instance : A9 Tryz.prog 133 := ⟨_, Tryz.func133, by kernel_rfl, rfl⟩
instance : A9 Tryz.prog 134 := ⟨_, Tryz.func134, by kernel_rfl, rfl⟩
instance : A9 Tryz.prog 135 := ⟨_, Tryz.func135, by kernel_rfl, rfl⟩
instance : A9 Tryz.prog 136 := ⟨_, Tryz.func136, by kernel_rfl, rfl⟩
instance : A9 Tryz.prog 137 := ⟨_, Tryz.func137, by kernel_rfl, rfl⟩
instance : A9 Tryz.prog 138 := ⟨_, Tryz.func138, by kernel_rfl, rfl⟩
instance : A9 Tryz.prog 139 := ⟨_, Tryz.func139, by kernel_rfl, rfl⟩
instance : A9 Tryz.prog 140 := ⟨_, Tryz.func140, by kernel_rfl, rfl⟩
instance : A9 Tryz.prog 141 := ⟨_, Tryz.func141, by kernel_rfl, rfl⟩
instance : A9 Tryz.prog 142 := ⟨_, Tryz.func142, by kernel_rfl, rfl⟩
instance : A9 Tryz.prog 143 := ⟨_, Tryz.func143, by kernel_rfl, rfl⟩
instance : A9 Tryz.prog 144 := ⟨_, Tryz.func144, by kernel_rfl, rfl⟩
instance : A9 Tryz.prog 145 := ⟨_, Tryz.func145, by kernel_rfl, rfl⟩
instance : A9 Tryz.prog 146 := ⟨_, Tryz.func146, by kernel_rfl, rfl⟩
instance : A9 Tryz.prog 147 := ⟨_, Tryz.func147, by kernel_rfl, rfl⟩
instance : A9 Tryz.prog 148 := ⟨_, Tryz.func148, by kernel_rfl, rfl⟩
instance : A9 Tryz.prog 149 := ⟨_, Tryz.func149, by kernel_rfl, rfl⟩
instance : A9 Tryz.prog 150 := ⟨_, Tryz.func150, by kernel_rfl, rfl⟩
instance : A9 Tryz.prog 151 := ⟨_, Tryz.func151, by kernel_rfl, rfl⟩
instance : A9 Tryz.prog 152 := ⟨_, Tryz.func152, by kernel_rfl, rfl⟩
instance : A9 Tryz.prog 153 := ⟨_, Tryz.func153, by kernel_rfl, rfl⟩
instance : A9 Tryz.prog 154 := ⟨_, Tryz.func154, by kernel_rfl, rfl⟩
instance : A9 Tryz.prog 155 := ⟨_, Tryz.func155, by kernel_rfl, rfl⟩
instance : A9 Tryz.prog 156 := ⟨_, Tryz.func156, by kernel_rfl, rfl⟩
instance : A9 Tryz.prog 157 := ⟨_, Tryz.func157, by kernel_rfl, rfl⟩
instance : A9 Tryz.prog 158 := ⟨_, Tryz.func158, by kernel_rfl, rfl⟩
instance : A9 Tryz.prog 159 := ⟨_, Tryz.func159, by kernel_rfl, rfl⟩
instance : A9 Tryz.prog 160 := ⟨_, Tryz.func160, by kernel_rfl, rfl⟩
instance : A9 Tryz.prog 161 := ⟨_, Tryz.func161, by kernel_rfl, rfl⟩
instance : A9 Tryz.prog 162 := ⟨_, Tryz.func162, by kernel_rfl, rfl⟩
instance : A9 Tryz.prog 163 := ⟨_, Tryz.func163, by kernel_rfl, rfl⟩
instance : A9 Tryz.prog 164 := ⟨_, Tryz.func164, by kernel_rfl, rfl⟩
instance : A9 Tryz.prog 166 := ⟨_, Tryz.func166, by kernel_rfl, rfl⟩
instance : A9 Tryz.prog 167 := ⟨_, Tryz.func167, by kernel_rfl, rfl⟩
instance : A9 Tryz.prog 168 := ⟨_, Tryz.func168, by kernel_rfl, rfl⟩
instance : A9 Tryz.prog 169 := ⟨_, Tryz.func169, by kernel_rfl, rfl⟩
instance : A9 Tryz.prog 170 := ⟨_, Tryz.func170, by kernel_rfl, rfl⟩
instance : A9 Tryz.prog 171 := ⟨_, Tryz.func171, by kernel_rfl, rfl⟩
instance : A9 Tryz.prog 172 := ⟨_, Tryz.func172, by kernel_rfl, rfl⟩
instance : A9 Tryz.prog 173 := ⟨_, Tryz.func173, by kernel_rfl, rfl⟩
instance : A9 Tryz.prog 174 := ⟨_, Tryz.func174, by kernel_rfl, rfl⟩
instance : A9 Tryz.prog 175 := ⟨_, Tryz.func175, by kernel_rfl, rfl⟩
instance : A9 Tryz.prog 176 := ⟨_, Tryz.func176, by kernel_rfl, rfl⟩
instance : A9 Tryz.prog 177 := ⟨_, Tryz.func177, by kernel_rfl, rfl⟩
instance : A9 Tryz.prog 178 := ⟨_, Tryz.func178, by kernel_rfl, rfl⟩
instance : A9 Tryz.prog 179 := ⟨_, Tryz.func179, by kernel_rfl, rfl⟩
instance : A9 Tryz.prog 180 := ⟨_, Tryz.func180, by kernel_rfl, rfl⟩
instance : A9 Tryz.prog 181 := ⟨_, Tryz.func181, by kernel_rfl, rfl⟩
instance : A9 Tryz.prog 182 := ⟨_, Tryz.func182, by kernel_rfl, rfl⟩
instance : A9 Tryz.prog 183 := ⟨_, Tryz.func183, by kernel_rfl, rfl⟩
instance : A9 Tryz.prog 184 := ⟨_, Tryz.func184, by kernel_rfl, rfl⟩
instance : A9 Tryz.prog 185 := ⟨_, Tryz.func185, by kernel_rfl, rfl⟩
instance : A9 Tryz.prog 186 := ⟨_, Tryz.func186, by kernel_rfl, rfl⟩
instance : A9 Tryz.prog 187 := ⟨_, Tryz.func187, by kernel_rfl, rfl⟩
instance : A9 Tryz.prog 188 := ⟨_, Tryz.func188, by kernel_rfl, rfl⟩
instance : A9 Tryz.prog 189 := ⟨_, Tryz.func189, by kernel_rfl, rfl⟩
instance : A9 Tryz.prog 190 := ⟨_, Tryz.func190, by kernel_rfl, rfl⟩
instance : A9 Tryz.prog 191 := ⟨_, Tryz.func191, by kernel_rfl, rfl⟩
instance : A9 Tryz.prog 222 := ⟨_, Tryz.func222, by kernel_rfl, rfl⟩
abbrev un2 := Tryz.underlying2
abbrev Li := Tryz.underlying3
abbrev un4 := Tryz.underlying4
abbrev un5 := Tryz.underlying5
abbrev CW := Tryz.underlying9
abbrev AHP := Tryz.underlying21
abbrev CD := Tryz.underlying22
abbrev GX := Tryz.underlying23
abbrev CJ := Tryz.underlying24
abbrev BR := Tryz.underlying26
abbrev ACH := Tryz.underlying29
abbrev Kf := Tryz.underlying37
abbrev WH := Tryz.underlying39
abbrev HE := Tryz.underlying40
abbrev AJI := Tryz.underlying43
abbrev ANl := Tryz.underlying45
abbrev Pt := Tryz.underlying53
abbrev Dx := Tryz.underlying56
abbrev ANA := Tryz.underlying58
abbrev AHI := Tryz.underlying64
abbrev AMe := Tryz.underlying71
abbrev Cz := Tryz.underlying73
abbrev Dr := Tryz.underlying91
abbrev AKD := Tryz.underlying106
abbrev AHq := Tryz.underlying108
abbrev Xv := Tryz.underlying114
abbrev Vq := Tryz.underlying119
end Go.Tri
