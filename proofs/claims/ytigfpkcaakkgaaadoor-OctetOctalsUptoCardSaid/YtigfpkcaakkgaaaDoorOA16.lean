/-
  The table of last bits, as it is laid.
-/
import Derived.Test.YtigfpkcaakkgaaaDoorOA9
import Derived.Test.YtigfpkcaakkgaaaDoorOA15
set_option maxRecDepth 100000
namespace Go.Tri
open Go.ChangeShapes Go.WideShapes Go.ChangeAt Go.RowKit Go.Proofs
open Go.Proofs.YtigfpkcaakkgaaaDoor
def debZ : List Int := [0, 1, 56, 2, 57, 49, 28, 3, 61, 58, 42, 50, 38, 29, 17, 4, 62, 47, 59, 36, 45, 43, 51, 22, 53, 39, 33, 30, 24, 18, 12, 5, 63, 55, 48, 27, 60, 41, 37, 16, 46, 35, 44, 21, 52, 32, 23, 11, 54, 26, 40, 15, 34, 20, 31, 10, 25, 14, 19, 9, 13, 8, 7, 6]
theorem gDeb : Tryd.prog.globalNamed "math/bits.deBruijn64tab" = some 7 := by kernel_rfl
theorem gDebType : (Tryd.prog.globals[7]?).map (·.type) = some 116 := by kernel_rfl
theorem go_of {W : World} (hL : laidMetH Tryd.prog Rows.octetOctalsUptoRow.laid W) (hS : W.ShapedOpen Tryd.prog) : GO W := by
  have h : laidMet Tryd.prog Rows.octetOctalsUptoRow.laid W := hL
  have h2 := laidMet.tail h
  have hd := Lib.tabIs_of_head (k := .u8) (zs := debZ) gDeb gDebType Tryd.underlying116 Tryd.underlying5 (by kernel_rfl) (by kernel_rfl) h2
  have hc := hd.cell gDeb 7 (by decide)
  refine ⟨gw_of hL hS, ?_⟩
  unfold World.cell? at hc
  cases hb : W.heap[7]? with
  | none => simp [hb] at hc
  | some o =>
    cases o with
    | cells cur T fr => exact ⟨cur, T, fr, hb, by simpa [hb, debZ] using hc⟩
    | _ => simp [hb] at hc
end Go.Tri
