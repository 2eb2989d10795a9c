/-
 What layer 1 computes, in plain words: names, quoting, lines, numbers.
-/
import Derived.Test.YthjgbalcngkjjaaGreatDoorPGen
import Derived.Test.YthjgbalcngkjjaaGreatDoorTriZ
import Derived.Lib.ParseIntB
import Derived.Lib.ItoaNum
import Derived.Lib.Replace
import Derived.Lib.ReplaceLaws
import Derived.Shelf.GgClosure.StringsIndexFunc
namespace Go.Tri
open Go.RowKit

def Fe (c : UInt8) : Bool := (decide ((97 : Int) ≤ (c.toNat : Int)) && decide ((c.toNat : Int) ≤ 122)) || (decide ((65 : Int) ≤ (c.toNat : Int)) && decide ((c.toNat : Int) ≤ 90)) || decide (c = 95)
def DQ (c : UInt8) : Bool := decide ((48 : Int) ≤ (c.toNat : Int)) && decide ((c.toNat : Int) ≤ 57)
def TS (s : List UInt8) (i : Nat) : Bool := Fe (nth s i 0) || (!decide ((i : Int) = 0) && DQ (nth s i 0))
def FSt (s : List UInt8) : Bool := decide (s ≠ []) && (List.range s.length).all (TS s)
theorem WL (c : UInt8) : (decide ((97 : Int) ≤ ((c ||| 32).toNat : Int)) && decide (((c ||| 32).toNat : Int) ≤ 122) && decide ((c.toNat : Int) < 128) || decide (c = 95)) = Fe c := by
 revert c; unfold Fe; exact Ps (by decide +kernel)
theorem ML {s : List UInt8} {i : Nat} (h : i < s.length) (hn : TS s i = false) : FSt s = false := by
 unfold FSt
 rw [Bool.and_eq_false_iff]
 right
 rw [List.all_eq_false]
 exact ⟨i, by simpa using h, by simp [hn]⟩
theorem Pn {s : List UInt8} (h : ∀ i, i < s.length → TS s i = true) : FSt s = decide (s ≠ []) := by
 unfold FSt
 have : (List.range s.length).all (TS s) = true := by
  rw [List.all_eq_true]
  intro i hi
  exact h i (by simpa using hi)
 rw [this, Bool.and_true]
theorem index_one (s : List UInt8) (c : UInt8) : Lib.index s [c] = Lib.indexByte s c := Lib.index_one s c
theorem JX {s : List UInt8} {c : UInt8} (h : Lib.indexByte s c = -1) : c ∉ s := by
 induction s with
 | nil => simp
 | cons b s ih =>
  have NL := Lib.indexByte_ge s c
  rw [Lib.indexByte] at h
  by_cases hb : (b == c) = true
  ·rw [if_pos hb] at h; cases h
  ·rw [if_neg hb] at h
   split at h
   ·rename_i h1
    intro hm
    rcases List.mem_cons.1 hm with e | hm
    ·exact hb (by simp [e])
    ·exact ih (by simpa using h1) hm
   ·rename_i h1
    have : ¬ Lib.indexByte s c = -1 := by simpa using h1
    omega
theorem Co {s : List UInt8} {c : UInt8} {i : Nat} (h : Lib.indexByte s c = i) : i < s.length ∧ nth s i 0 = c ∧ c ∉ s.take i := by
 induction s generalizing i with
 | nil =>
  have h' : (-1 : Int) = (i : Int) := h
  omega
 | cons b s ih =>
  have NL := Lib.indexByte_ge s c
  rw [Lib.indexByte] at h
  by_cases hb : (b == c) = true
  ·rw [if_pos hb] at h
   have : i = 0 := by omega
   subst this
   exact ⟨by simp, by simpa [nth] using hb, by simp⟩
  ·rw [if_neg hb] at h
   split at h
   ·omega
   ·rename_i h1
    have hx : ¬ Lib.indexByte s c = -1 := by simpa using h1
    obtain ⟨j, rfl⟩ : ∃ j, i = j + 1 := ⟨i - 1, by omega⟩
    have h2 := ih (i := j) (by omega)
    refine ⟨by simp; exact h2.1, by simpa [nth] using h2.2.1, ?_⟩
    rw [List.take_succ_cons]
    intro hm
    rcases List.mem_cons.1 hm with e | hm
    ·exact hb (by simp [e])
    ·exact h2.2.2 hm
theorem QJ {s : ByteArray} {i : Nat} (h : (s.get! i).toNat < 128) : Utf8.decode s i = ((s.get! i).toNat, 1) := by
 unfold Utf8.decode
 simp only [Nat.add_zero]
 rw [if_pos h]
theorem ACE {s : List UInt8} {i : Nat} (h : i < s.length) : (⟨s.toArray⟩ : ByteArray).get! i = nth s i 0 := by
 show s.toArray[i]! = _
 rw [Ed h]; simp [h]
def Gd (s : List UInt8) : Nat := if Lib.indexByte s 10 = -1 then s.length else (Lib.indexByte s 10).toNat + 1
theorem H8 {s : List UInt8} (h : s ≠ []) : 1 ≤ Gd s := by
 unfold Gd; split
 ·exact List.length_pos_iff.2 h
 ·omega
theorem R5 (s : List UInt8) : Gd s ≤ s.length := by
 unfold Gd; split
 ·omega
 ·have NL := Lib.indexByte_ge s 10
  obtain ⟨i, hi⟩ : ∃ i : Nat, Lib.indexByte s 10 = i := ⟨(Lib.indexByte s 10).toNat, by omega⟩
  have := (Co hi).1
  omega
def HW : Nat → List UInt8 → List (List UInt8)
 | 0, _ => []
 | n + 1, s => if s = [] then [] else s.take (Gd s) :: HW n (s.drop (Gd s))
theorem Il : ∀ (n m : Nat) (s : List UInt8), s.length ≤ n → s.length ≤ m → HW n s = HW m s
 | 0, 0, _, _, _ => rfl
 | 0, m + 1, s, h, _ => by
  have : s = [] := List.eq_nil_of_length_eq_zero (by omega)
  subst this; simp [HW]
 | n + 1, 0, s, _, h => by
  have : s = [] := List.eq_nil_of_length_eq_zero (by omega)
  subst this; simp [HW]
 | n + 1, m + 1, s, h1, h2 => by
  unfold HW
  split
  ·rfl
  ·rename_i hs
   have := H8 hs
   rw [Il n m _ (by simp; omega) (by simp; omega)]
def CQ (s : List UInt8) : List (List UInt8) := HW s.length s
theorem UG : CQ [] = [] := rfl
theorem MF {s : List UInt8} (h : s ≠ []) : CQ s = s.take (Gd s) :: CQ (s.drop (Gd s)) := by
 have h1 := List.length_pos_iff.2 h
 have h2 := H8 h
 unfold CQ
 rw [Il s.length (s.length - 1 + 1) s (Nat.le_refl _) (by omega), HW, if_neg h, Il _ _ _ (by simp; omega) (Nat.le_refl _)]
theorem OW : ∀ (n : Nat) (s : List UInt8), s.length ≤ n → (CQ s).flatten = s
 | 0, s, h => by
  have : s = [] := List.eq_nil_of_length_eq_zero (by omega)
  subst this; rfl
 | n + 1, s, h => by
  by_cases hs : s = []
  ·subst hs; rfl
  ·have := H8 hs
   rw [MF hs, List.flatten_cons, OW n _ (by simp; omega), List.take_append_drop]
end Go.Tri
