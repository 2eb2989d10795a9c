/-
 Lists of texts as rows; small words for lists.
-/
import Derived.Test.YtmjcakamgeepbaaGreatDoorTriB5
import Derived.Test.YtmjcakamgeepbaaGreatDoorPSplit
namespace Go.Tri
open Go.RowKit
def stC (t : List UInt8) : List Value := [str t]
theorem stC_at {l : List (List UInt8)} {i : Nat} (h : i < l.length) : ((l.map stC).flatten)[i * 1]? = some (str (nth l i [])) := by
 have := flat_at (f := stC) (sz := 1) (fun _ => rfl) (map_getD l stC [] h) (j := 0) (u := str (nth l i [])) rfl
 exact this
theorem rd_by {w0 : World} {I : Look} {H : List HA} {v : Value} {l : List UInt8} (h : Sl I 1 v (l.map byC)) {i : Nat} (hi : i < l.length) : Rd w0 I H (adr v).block ((adr v).off + i * 1) (u8 (nth l i 0)) := h.rd (j := 0) (map_getD l byC 0 hi) rfl
/-- a fold over what was gone through -/
theorem fold_take {α β : Type} (f : β → α → β) (s : β) {l : List α} {i : Nat} (d : α) (h : i < l.length) : (l.take (i + 1)).foldl f s = f ((l.take i).foldl f s) (nth l i d) := by
 rw [take_nth d h, List.foldl_append]; rfl
end Go.Tri
namespace Go.Tri
theorem indexByte_has (s : List UInt8) (c : UInt8) : decide (0 ≤ Lib.indexByte s c) = hasB s c := by
 unfold hasB
 induction s with
 | nil => rfl
 | cons b s ih =>
  have hge := Lib.indexByte_ge s c
  rw [List.any_cons, ← ih, Lib.indexByte]
  by_cases h : b = c
  ·simp [h]
  ·have : (b == c) = false := by simpa using h
   simp only [this, Bool.false_eq_true, if_false, Bool.false_or, beq_iff_eq]
   split
   ·rename_i h1; simp [h1]
   ·rename_i h1
    have h2 : 0 ≤ Lib.indexByte s c := by omega
    simp [h2]; omega
end Go.Tri
