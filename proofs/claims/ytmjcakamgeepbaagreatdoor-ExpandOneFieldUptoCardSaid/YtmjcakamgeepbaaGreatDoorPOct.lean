/-
 What layer 1 computes, in plain words: names, quoting, lines, numbers.
-/
import Derived.Test.YtmjcakamgeepbaaGreatDoorPGen
import Derived.Test.YtmjcakamgeepbaaGreatDoorTriZ
import Derived.Lib.ParseIntB
import Derived.Lib.ItoaNum
import Derived.Lib.Replace
import Derived.Lib.ReplaceLaws
import Derived.Shelf.GgClosure.StringsIndexFunc
namespace Go.Tri
open Go.RowKit

/-! names -/
def letterB (c : UInt8) : Bool := (decide ((97 : Int) ≤ (c.toNat : Int)) && decide ((c.toNat : Int) ≤ 122)) || (decide ((65 : Int) ≤ (c.toNat : Int)) && decide ((c.toNat : Int) ≤ 90)) || decide (c = 95)
def digitB' (c : UInt8) : Bool := decide ((48 : Int) ≤ (c.toNat : Int)) && decide ((c.toNat : Int) ≤ 57)
def okN (s : List UInt8) (i : Nat) : Bool := letterB (nth s i 0) || (!decide ((i : Int) = 0) && digitB' (nth s i 0))
def nameB (s : List UInt8) : Bool := decide (s ≠ []) && (List.range s.length).all (okN s)
theorem letter_or (c : UInt8) : (decide ((97 : Int) ≤ ((c ||| 32).toNat : Int)) && decide (((c ||| 32).toNat : Int) ≤ 122) && decide ((c.toNat : Int) < 128) || decide (c = 95)) = letterB c := by
 revert c; unfold letterB; exact u8_all (by decide +kernel)
theorem nameB_false {s : List UInt8} {i : Nat} (h : i < s.length) (hn : okN s i = false) : nameB s = false := by
 unfold nameB
 rw [Bool.and_eq_false_iff]
 right
 rw [List.all_eq_false]
 exact ⟨i, by simpa using h, by simp [hn]⟩
theorem nameB_all {s : List UInt8} (h : ∀ i, i < s.length → okN s i = true) : nameB s = decide (s ≠ []) := by
 unfold nameB
 have : (List.range s.length).all (okN s) = true := by
  rw [List.all_eq_true]
  intro i hi
  exact h i (by simpa using hi)
 rw [this, Bool.and_true]
/-- a text in which each quote is replaced -/
theorem index_one (s : List UInt8) (c : UInt8) : Lib.index s [c] = Lib.indexByte s c := Lib.index_one s c
theorem indexByte_some {s : List UInt8} {c : UInt8} {i : Nat} (h : Lib.indexByte s c = i) : i < s.length ∧ nth s i 0 = c ∧ c ∉ s.take i := by
 induction s generalizing i with
 | nil =>
  have h' : (-1 : Int) = (i : Int) := h
  omega
 | cons b s ih =>
  have hge := Lib.indexByte_ge s c
  rw [Lib.indexByte] at h
  by_cases hb : (b == c) = true
  ·rw [if_pos hb] at h
   have : i = 0 := by omega
   subst this
   exact ⟨by simp, by simpa [nth] using hb, by simp⟩
  ·rw [if_neg hb] at h
   split at h
   ·omega
   ·rename_i h1
    have hx : ¬ Lib.indexByte s c = -1 := by simpa using h1
    obtain ⟨j, rfl⟩ : ∃ j, i = j + 1 := ⟨i - 1, by omega⟩
    have h2 := ih (i := j) (by omega)
    refine ⟨by simp; exact h2.1, by simpa [nth] using h2.2.1, ?_⟩
    rw [List.take_succ_cons]
    intro hm
    rcases List.mem_cons.1 hm with e | hm
    ·exact hb (by simp [e])
    ·exact h2.2.2 hm
end Go.Tri
