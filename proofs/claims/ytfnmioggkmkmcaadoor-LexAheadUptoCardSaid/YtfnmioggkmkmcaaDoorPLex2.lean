/-
  What a line of a shell text is read as: words, operators, tokens, in plain words.
-/
import Derived.Test.YtfnmioggkmkmcaaDoorPLex
import Derived.Lib.SlTrimSet
namespace Go.Tri
open Go.RowKit
def specials : List UInt8 := [32, 9, 10, 38, 59, 124, 60, 62, 40, 41]
def wordStep (l : List UInt8) : SR := if stB l [34] then (lv 24).1 l else insideP (lv 24).2 false true l
def wordL : Nat → List UInt8 → SR
  | 0, _ => .ok 0
  | f + 1, l => if l = [] then .ok 0 else if hasB specials (nth l 0 0) then .ok 0 else
    match wordStep l with
    | .bad a e => .bad a e
    | .ok k => (wordL f (l.drop k)).on k
def wordP (l : List UInt8) : SR := wordL l.length l
theorem SR.on_on (a b : Nat) (r : SR) : (r.on b).on a = r.on (a + b) := by cases r <;> simp [SR.on, Nat.add_assoc]
theorem SR.on_zero (r : SR) : r.on 0 = r := by cases r <;> simp [SR.on]
theorem wordStep_fit {l : List UInt8} (h : l ≠ []) : Fit l (wordStep l) := by
  unfold wordStep
  split
  · exact (lv_fit 24).1 l h
  · exact insideP_fit (lv_fit 24).2 h
theorem wordL_end (f : Nat) : wordL f [] = .ok 0 := by cases f <;> simp [wordL]
theorem word_step {f : Nat} {l : List UInt8} {r : SR} {j : Nat} (h : r = (wordL f l).on j) (hl : l ≠ []) (hf : l.length ≤ f) :
    (hasB specials (nth l 0 0) = true → r = .ok j) ∧ (hasB specials (nth l 0 0) = false → (∀ a e, wordStep l = .bad a e → r = .bad (j + a) e) ∧ ∀ k, wordStep l = .ok k → r = (wordL (f - 1) (l.drop k)).on (j + k)) := by
  have hp := List.length_pos_iff.2 hl
  obtain ⟨g, rfl⟩ : ∃ g, f = g + 1 := ⟨f - 1, by omega⟩
  refine ⟨fun h1 => ?_, fun h1 => ⟨fun a e h2 => ?_, fun k h2 => ?_⟩⟩
  · rw [h, wordL, if_neg hl, if_pos h1]; rfl
  · rw [h, wordL, if_neg hl, if_neg (by rw [h1]; simp), h2]; rfl
  · rw [h, wordL, if_neg hl, if_neg (by rw [h1]; simp), h2, Nat.add_sub_cancel]
    exact SR.on_on _ _ _
theorem wordL_fit : ∀ (f : Nat) (l : List UInt8) (k : Nat), wordL f l = .ok k → k ≤ l.length
  | 0, l, k, h => by cases h; omega
  | f + 1, l, k, h => by
    rw [wordL] at h
    split at h
    · cases h; omega
    · rename_i hl
      split at h
      · cases h; omega
      · have hf := wordStep_fit hl
        cases hs : wordStep l with
        | bad a e => rw [hs] at h; cases h
        | ok j =>
          rw [hs] at h hf
          cases hr : wordL f (l.drop j) with
          | bad a e => simp only [hr] at h; cases h
          | ok m =>
            simp only [hr] at h
            have := wordL_fit f (l.drop j) m hr
            rw [List.length_drop] at this
            have h2 : 1 ≤ j ∧ j ≤ l.length := hf
            cases h; omega
theorem wordP_fit {l : List UInt8} {k : Nat} (h : wordP l = .ok k) : k ≤ l.length := wordL_fit _ _ _ h
def opsS : List UInt8 := [32, 38, 38, 32, 124, 124, 32, 59, 59, 32, 60, 60, 32, 60, 60, 45, 32, 62, 62, 32, 60, 38, 32, 62, 38, 32, 60, 62, 32, 62, 124, 32, 38, 32, 59, 32, 124, 32, 60, 32, 62, 32, 40, 32, 41, 32]
def isOp (t : List UInt8) : Bool := Lib.contains opsS ([32] ++ t ++ [32]) && !hasB t 32
def opAt (l : List UInt8) (n : Nat) : Bool := decide ((l.take n).length = n) && isOp (l.take n)
def opN : Nat → List UInt8 → List UInt8
  | 0, _ => []
  | n + 1, l => if opAt l (n + 1) then l.take (n + 1) else opN n l
def opP (l : List UInt8) : List UInt8 := opN 3 l
theorem opN_len : ∀ (n : Nat) (l : List UInt8), (opN n l).length ≤ l.length ∧ (opN n l).length ≤ n ∧ opN n l = l.take (opN n l).length
  | 0, l => ⟨by simp [opN], by simp [opN], by simp [opN]⟩
  | n + 1, l => by
    rw [opN]
    split
    · rename_i h
      have h1 : (l.take (n + 1)).length = n + 1 := by
        unfold opAt at h
        rw [Bool.and_eq_true, decide_eq_true_eq] at h
        exact h.1
      refine ⟨?_, by omega, by rw [h1]⟩
      rw [List.length_take] at h1 ⊢; omega
    · obtain ⟨h1, h2, h3⟩ := opN_len n l
      exact ⟨h1, by omega, h3⟩
structure Tok where
  kind : Nat
  text : List UInt8
  pos : Nat
  doc : List UInt8
  raw : Bool
  deriving DecidableEq
def tok0 : Tok := ⟨0, [], 0, [], false⟩
/-- the next token of the text left: so far on it begins and ends -/
inductive TR where
  | stop (k : Nat)
  | tok (off k kind : Nat) (text : List UInt8)
  | bad (a e : Nat)
def TR.on (n : Nat) : TR → TR
  | .stop k => .stop (n + k)
  | .tok off k kind text => .tok (n + off) (n + k) kind text
  | .bad a e => .bad (n + a) e
theorem TR.on_on (a b : Nat) (r : TR) : (r.on b).on a = r.on (a + b) := by cases r <;> simp [TR.on, Nat.add_assoc]
theorem TR.on_zero (r : TR) : r.on 0 = r := by cases r <;> simp [TR.on]
def digitsS : List UInt8 := [48, 49, 50, 51, 52, 53, 54, 55, 56, 57]
def numberB (l : List UInt8) (k : Nat) : Bool := decide (Lib.trimS (l.take k) digitsS = []) && (stB (l.drop k) [60] || stB (l.drop k) [62])
def restP (l : List UInt8) : TR := match wordP l with
  | .bad a e => .bad a e
  | .ok k => if 4096 < k then .bad 0 51 else .tok 0 k (if numberB l k then 4 else 1) (l.take k)
def remark (l : List UInt8) : Nat := if 0 ≤ Lib.indexByte l 10 then (Lib.indexByte l 10).toNat else l.length
/-- so many bytes are passed over at the place, if any are -/
def blankN (l : List UInt8) : Nat := if stB l [92, 10] then 2 else if (decide (nth l 0 0 = 32) || decide (nth l 0 0 = 9)) = true then 1 else if nth l 0 0 = 35 then remark l else 0
def headP (l : List UInt8) : TR := if nth l 0 0 = 10 then .tok 0 1 3 [10] else if opP l ≠ [] then .tok 0 (opP l).length 2 (opP l) else restP l
def tokL : Nat → List UInt8 → TR
  | 0, _ => .stop 0
  | f + 1, l => if l = [] then .stop 0 else if blankN l ≠ 0 then (tokL f (l.drop (blankN l))).on (blankN l) else headP l
def tokP (l : List UInt8) : TR := tokL (l.length + 1) l
theorem remark_pos {l : List UInt8} (h : nth l 0 0 = 35) (hl : l ≠ []) : 1 ≤ remark l ∧ remark l ≤ l.length := by
  have hp := List.length_pos_iff.2 hl
  unfold remark
  split
  · rename_i h1
    obtain ⟨i, hi⟩ : ∃ i : Nat, Lib.indexByte l 10 = i := ⟨(Lib.indexByte l 10).toNat, by omega⟩
    obtain ⟨h2, h3, h4⟩ := indexByte_some hi
    rw [hi]
    refine ⟨?_, by omega⟩
    rcases Nat.eq_zero_or_pos i with h5 | h5
    · subst h5
      rw [h3] at h; exact absurd h (by decide)
    · omega
  · omega
theorem blankN_le {l : List UInt8} (hl : l ≠ []) : blankN l ≤ l.length := by
  have hp := List.length_pos_iff.2 hl
  unfold blankN
  split
  · rename_i h; exact stB_len h
  · split
    · omega
    · split
      · rename_i h; exact (remark_pos h hl).2
      · omega
theorem tok_step {f : Nat} {l : List UInt8} {r : TR} {j : Nat} (h : r = (tokL f l).on j) (hf : l.length < f) :
    (l = [] → r = .stop j) ∧ (l ≠ [] → (blankN l = 0 → r = (headP l).on j) ∧ ∀ k, blankN l = k → k ≠ 0 → r = (tokL (f - 1) (l.drop k)).on (j + k)) := by
  obtain ⟨g, rfl⟩ : ∃ g, f = g + 1 := ⟨f - 1, by omega⟩
  refine ⟨fun h1 => ?_, fun h1 => ⟨fun h2 => ?_, fun k h2 h3 => ?_⟩⟩
  · rw [h, tokL, if_pos h1]; rfl
  · rw [h, tokL, if_neg h1, if_neg (by rw [h2]; simp)]
  · subst h2
    rw [h, tokL, if_neg h1, if_pos h3, Nat.add_sub_cancel]
    exact TR.on_on _ _ _
end Go.Tri
