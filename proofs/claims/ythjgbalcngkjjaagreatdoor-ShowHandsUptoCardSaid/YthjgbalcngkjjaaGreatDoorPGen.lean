/-
 Lists of texts as rows; small words for lists.
-/
import Derived.Test.YthjgbalcngkjjaaGreatDoorTriB5
import Derived.Test.YthjgbalcngkjjaaGreatDoorPSplit
namespace Go.Tri
open Go.RowKit
def Bo (t : List UInt8) : List Value := [Bj t]
theorem Ev (t : List UInt8) : ∀ u ∈ Bo t, u.oneCell' = true := fun u hu => by
 rw [Bo, List.mem_singleton] at hu
 subst hu
 rfl
theorem Iw {w0 : World} {I : AU} {H : List HA} {v : Value} {l : List (List UInt8)} (h : Sl I 1 v (l.map Bo)) {i : Nat} (hi : i < l.length) : Rd w0 I H (GN v).block ((GN v).off + i * 1) (Bj (nth l i [])) := h.rd (j := 0) (Jn l Bo [] hi) rfl
theorem AHO {w0 : World} {I : AU} {H : List HA} {v : Value} {l : List UInt8} (h : Sl I 1 v (l.map Fo)) {i : Nat} (hi : i < l.length) : Rd w0 I H (GN v).block ((GN v).off + i * 1) (u8 (nth l i 0)) := h.rd (j := 0) (Jn l Fo 0 hi) rfl
end Go.Tri
namespace Go.Tri
theorem Dn (s : List UInt8) (c : UInt8) : decide (0 ≤ Lib.indexByte s c) = DX s c := by
 unfold DX
 induction s with
 | nil => rfl
 | cons b s ih =>
  have NL := Lib.indexByte_ge s c
  rw [List.any_cons, ← ih, Lib.indexByte]
  by_cases h : b = c
  ·simp [h]
  ·have : (b == c) = false := by simpa using h
   simp only [this, Bool.false_eq_true, if_false, Bool.false_or, beq_iff_eq]
   split
   ·rename_i h1; simp [h1]
   ·rename_i h1
    have h2 : 0 ≤ Lib.indexByte s c := by omega
    simp [h2]; omega
end Go.Tri
