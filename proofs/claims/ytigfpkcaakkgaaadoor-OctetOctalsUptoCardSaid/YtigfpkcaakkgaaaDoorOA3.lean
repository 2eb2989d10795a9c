/-
  The reference: names, quotes, lines.
-/
import Derived.Test.YtigfpkcaakkgaaaDoorOA2
namespace Go.Tri
open Go.Proofs Go.RowKit
/-- what the reference's Lines holds at i: the last line began at a -/
def LnAt (s : List UInt8) (a i : Nat) (l : List (List UInt8)) : Prop := a ≤ i ∧ i ≤ s.length ∧ l = linesB (s.take a) ∧ (a ≠ 0 → nth s (a - 1) 0 = 10) ∧ 10 ∉ (s.drop a).take (i - a)
theorem LnAt.start (s : List UInt8) : LnAt s 0 0 [] := ⟨Nat.le_refl _, Nat.zero_le _, rfl, fun h => absurd rfl h, by simp⟩
theorem take_end {s : List UInt8} {a : Nat} (ha : a ≤ s.length) (h : a ≠ 0 → nth s (a - 1) 0 = 10) : s.take a ≠ [] → nth (s.take a) ((s.take a).length - 1) 0 = 10 := fun hn => by
  have h0 : a ≠ 0 := fun e => hn (by rw [e]; rfl)
  rw [← h h0]
  have hl : (s.take a).length = a := by simp; omega
  rw [hl]
  unfold nth
  rw [List.getD_eq_getElem?_getD, List.getD_eq_getElem?_getD, List.getElem?_take, if_pos (by omega)]
theorem LnAt.rest {s : List UInt8} {a : Nat} {l : List (List UInt8)} (h : LnAt s a s.length l) : (a < s.length → linesB s = l ++ [s.drop a]) ∧ (¬ a < s.length → linesB s = l) := by
  obtain ⟨h1, h2, h3, h4, h5⟩ := h
  constructor
  · intro ha
    have h6 : (s.drop a).take (s.length - a) = s.drop a := List.take_of_length_le (by simp)
    rw [h6] at h5
    conv => lhs; rw [← List.take_append_drop a s]
    rw [lines_app _ _ _ (Nat.le_refl _) (take_end (by omega) h4), ← h3, lines_last _ h5]
    exact List.ne_nil_of_length_pos (by rw [List.length_drop]; omega)
  · intro ha
    rw [h3, List.take_of_length_le (by omega)]
theorem LnAt.len {s : List UInt8} {a i : Nat} {l : List (List UInt8)} (h : LnAt s a i l) : l.length ≤ i := by
  obtain ⟨h1, h2, h3, h4, h5⟩ := h
  rw [h3]
  have := lines_len _ (s.take a) (Nat.le_refl _)
  simp at this; omega
end Go.Tri
