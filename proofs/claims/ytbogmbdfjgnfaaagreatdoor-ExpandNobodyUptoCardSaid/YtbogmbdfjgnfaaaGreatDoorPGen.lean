/-
  Lists of texts as rows; small words for lists.
-/
import Derived.Test.YtbogmbdfjgnfaaaGreatDoorTriB5
import Derived.Test.YtbogmbdfjgnfaaaGreatDoorPSplit
namespace Go.Tri
open Go.RowKit
theorem rd_by {w0 : World} {I : Look} {H : List HA} {v : Value} {l : List UInt8} (h : Sl I 1 v (l.map byC)) {i : Nat} (hi : i < l.length) : Rd w0 I H (adr v).block ((adr v).off + i * 1) (u8 (nth l i 0)) := h.rd (j := 0) (map_getD l byC 0 hi) rfl
end Go.Tri
namespace Go.Tri
theorem indexByte_has (s : List UInt8) (c : UInt8) : decide (0 ≤ Lib.indexByte s c) = hasB s c := by
  unfold hasB
  induction s with
  | nil => rfl
  | cons b s ih =>
    have hge := Lib.indexByte_ge s c
    rw [List.any_cons, ← ih, Lib.indexByte]
    by_cases h : b = c
    · simp [h]
    · have : (b == c) = false := by simpa using h
      simp only [this, Bool.false_eq_true, if_false, Bool.false_or, beq_iff_eq]
      split
      · rename_i h1; simp [h1]
      · rename_i h1
        have h2 : 0 ≤ Lib.indexByte s c := by omega
        simp [h2]; omega
end Go.Tri
