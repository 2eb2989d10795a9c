/-
 What layer 1 computes, in plain words: names, quoting, lines, numbers.
-/
import Derived.Test.YtbogmbdfjgnfaaaGreatDoorPGen
import Derived.Test.YtbogmbdfjgnfaaaGreatDoorTriB24
import Derived.Lib.ParseIntB
import Derived.Lib.ItoaNum
import Derived.Lib.Replace
import Derived.Lib.ReplaceLaws
import Derived.Shelf.GgClosure.StringsIndexFunc
namespace Go.Tri
open Go.RowKit

/-! names -/
def letterB (c : UInt8) : Bool := (decide ((97 : Int) ≤ (c.toNat : Int)) && decide ((c.toNat : Int) ≤ 122)) || (decide ((65 : Int) ≤ (c.toNat : Int)) && decide ((c.toNat : Int) ≤ 90)) || decide (c = 95)
def digitB' (c : UInt8) : Bool := decide ((48 : Int) ≤ (c.toNat : Int)) && decide ((c.toNat : Int) ≤ 57)
def okN (s : List UInt8) (i : Nat) : Bool := letterB (nth s i 0) || (!decide ((i : Int) = 0) && digitB' (nth s i 0))
def nameB (s : List UInt8) : Bool := decide (s ≠ []) && (List.range s.length).all (okN s)
theorem letter_or (c : UInt8) : (decide ((97 : Int) ≤ ((c ||| 32).toNat : Int)) && decide (((c ||| 32).toNat : Int) ≤ 122) && decide ((c.toNat : Int) < 128) || decide (c = 95)) = letterB c := by
 revert c; unfold letterB; exact u8_all (by decide +kernel)
theorem nameB_false {s : List UInt8} {i : Nat} (h : i < s.length) (hn : okN s i = false) : nameB s = false := by
 unfold nameB
 rw [Bool.and_eq_false_iff]
 right
 rw [List.all_eq_false]
 exact ⟨i, by simpa using h, by simp [hn]⟩
theorem nameB_all {s : List UInt8} (h : ∀ i, i < s.length → okN s i = true) : nameB s = decide (s ≠ []) := by
 unfold nameB
 have : (List.range s.length).all (okN s) = true := by
  rw [List.all_eq_true]
  intro i hi
  exact h i (by simpa using hi)
 rw [this, Bool.and_true]
/-! quoting -/
def oddText : List UInt8 := [45, 46, 47, 58, 61, 43, 44, 64, 37]
def plainC (c : UInt8) : Bool := letterB c || digitB' c || hasB oddText c
def escC (c : UInt8) : List UInt8 := if c = 39 then [39, 92, 39, 39] else [c]
def escB (s : List UInt8) : List UInt8 := s.flatMap escC
def quoteB (s : List UInt8) : List UInt8 := if (decide (s ≠ []) && s.all plainC) = true then s else [39] ++ escB s ++ [39]
theorem escB_len (s : List UInt8) : (escB s).length ≤ 4 * s.length := by
 induction s with
 | nil => simp [escB]
 | cons c s ih =>
  unfold escB at *
  rw [List.flatMap_cons, List.length_append, List.length_cons]
  have : (escC c).length ≤ 4 := by unfold escC; split <;> simp
  omega
/-- a text in which each quote is replaced -/
theorem index_one (s : List UInt8) (c : UInt8) : Lib.index s [c] = Lib.indexByte s c := Lib.index_one s c
theorem indexByte_none {s : List UInt8} {c : UInt8} (h : Lib.indexByte s c = -1) : c ∉ s := by
 induction s with
 | nil => simp
 | cons b s ih =>
  have hge := Lib.indexByte_ge s c
  rw [Lib.indexByte] at h
  by_cases hb : (b == c) = true
  ·rw [if_pos hb] at h; cases h
  ·rw [if_neg hb] at h
   split at h
   ·rename_i h1
    intro hm
    rcases List.mem_cons.1 hm with e | hm
    ·exact hb (by simp [e])
    ·exact ih (by simpa using h1) hm
   ·rename_i h1
    have : ¬ Lib.indexByte s c = -1 := by simpa using h1
    omega
theorem indexByte_some {s : List UInt8} {c : UInt8} {i : Nat} (h : Lib.indexByte s c = i) : i < s.length ∧ nth s i 0 = c ∧ c ∉ s.take i := by
 induction s generalizing i with
 | nil =>
  have h' : (-1 : Int) = (i : Int) := h
  omega
 | cons b s ih =>
  have hge := Lib.indexByte_ge s c
  rw [Lib.indexByte] at h
  by_cases hb : (b == c) = true
  ·rw [if_pos hb] at h
   have : i = 0 := by omega
   subst this
   exact ⟨by simp, by simpa [nth] using hb, by simp⟩
  ·rw [if_neg hb] at h
   split at h
   ·omega
   ·rename_i h1
    have hx : ¬ Lib.indexByte s c = -1 := by simpa using h1
    obtain ⟨j, rfl⟩ : ∃ j, i = j + 1 := ⟨i - 1, by omega⟩
    have h2 := ih (i := j) (by omega)
    refine ⟨by simp; exact h2.1, by simpa [nth] using h2.2.1, ?_⟩
    rw [List.take_succ_cons]
    intro hm
    rcases List.mem_cons.1 hm with e | hm
    ·exact hb (by simp [e])
    ·exact h2.2.2 hm
theorem escB_plain {s : List UInt8} (h : 39 ∉ s) : escB s = s := by
 induction s with
 | nil => rfl
 | cons c s ih =>
  unfold escB at *
  rw [List.flatMap_cons, ih (fun h' => h (List.mem_cons_of_mem _ h'))]
  have : ¬ c = 39 := fun e => h (by simp [e])
  simp [escC, this]
theorem replaceK_esc : ∀ (k : Nat) (s : List UInt8), s.count 39 ≤ k → Lib.replaceK [39] [39, 92, 39, 39] k s = escB s
 | 0, s, h => by
  have : 39 ∉ s := by
   intro hm
   have := List.count_pos_iff.2 hm
   omega
  rw [escB_plain this]; rfl
 | k + 1, s, h => by
  by_cases hm : Lib.indexByte s 39 = -1
  ·rw [escB_plain (indexByte_none hm)]
   unfold Lib.replaceK
   rw [index_one, hm]; rfl
  ·have hge := Lib.indexByte_ge s 39
   obtain ⟨i, hi⟩ : ∃ i : Nat, Lib.indexByte s 39 = i := ⟨(Lib.indexByte s 39).toNat, by omega⟩
   obtain ⟨h1, h2, h3⟩ := indexByte_some hi
   rw [Lib.replaceK_hit _ _ _ _ i (by rw [index_one]; exact hi)]
   have e : s = s.take i ++ 39 :: s.drop (i + 1) := by
    conv => lhs; rw [← List.take_append_drop i s, drop_nth 0 h1, h2]
   have hc : (s.drop (i + 1)).count 39 ≤ k := by
    rw [e, List.count_append, List.count_cons_self] at h
    rw [e] at h ⊢
    have e2 : (List.take i s ++ 39 :: List.drop (i + 1) s).drop (i + 1) = s.drop (i + 1) := by rw [← e]
    rw [e2]
    have e3 : s.take i ++ 39 :: s.drop (i + 1) = s := e.symm
    rw [e3] at h
    omega
   show s.take i ++ [39, 92, 39, 39] ++ Lib.replaceK [39] [39, 92, 39, 39] k (s.drop (i + 1)) = _
   rw [replaceK_esc k _ hc]
   conv => rhs; rw [e]
   unfold escB
   rw [List.flatMap_append, List.flatMap_cons]
   have e4 : (s.take i).flatMap escC = s.take i := escB_plain h3
   rw [e4]
   simp [escC]
theorem count_one (s : List UInt8) (c : UInt8) : Lib.count s [c] = s.count c := Lib.count_one c s
theorem replaceAll_esc (s : List UInt8) : Lib.replaceAll s [39] [39, 92, 39, 39] = escB s := by
 unfold Lib.replaceAll Lib.replace Lib.replaceNum
 rw [if_neg (by decide), if_pos (.inl (by decide)), count_one]
 exact replaceK_esc _ s (Nat.le_refl _)
/-! what is odd in a text, rune by rune -/
def oddR (x : Nat) : Bool := !(decide (x < 128) && plainC (UInt8.ofNat x))
theorem decode_ascii {s : ByteArray} {i : Nat} (h : (s.get! i).toNat < 128) : Utf8.decode s i = ((s.get! i).toNat, 1) := by
 unfold Utf8.decode
 simp only [Nat.add_zero]
 rw [if_pos h]
theorem decode_high {s : ByteArray} {i : Nat} (h : ¬ (s.get! i).toNat < 128) : 128 ≤ (Utf8.decode s i).1 := by
 unfold Utf8.decode
 simp only [Nat.add_zero]
 rw [if_neg h]
 split
 ·split
  ·rename_i h1; simpa using h1
  ·decide
 ·split
  ·split
   ·rename_i h1; simp only [Bool.and_eq_true, decide_eq_true_eq] at h1; show 128 ≤ _; omega
   ·decide
  ·split
   ·split
    ·rename_i h1; simp only [Bool.and_eq_true, decide_eq_true_eq] at h1; show 128 ≤ _; omega
    ·decide
   ·decide
theorem get_str {s : List UInt8} {i : Nat} (h : i < s.length) : (⟨s.toArray⟩ : ByteArray).get! i = nth s i 0 := by
 show s.toArray[i]! = _
 rw [nth_eq h]; simp [h]
theorem idxFunc_odd {s : List UInt8} : ∀ (f pos : Nat), s.length - pos ≤ f → decide (0 ≤ Lib.idxFuncFrom oddR true ⟨s.toArray⟩ f pos) = !(s.drop pos).all plainC
 | 0, pos, h => by
  rw [List.drop_of_length_le (by omega)]; rfl
 | f + 1, pos, h => by
  unfold Lib.idxFuncFrom
  rw [size_str]
  by_cases hp : pos < s.length
  ·rw [if_pos hp, drop_nth 0 hp, List.all_cons]
   by_cases ha : (nth s pos 0).toNat < 128
   ·rw [decode_ascii (by rw [get_str hp]; exact ha), get_str hp]
    have e : UInt8.ofNat (nth s pos 0).toNat = nth s pos 0 := by simp
    have hodd : oddR (nth s pos 0).toNat = !plainC (nth s pos 0) := by
     unfold oddR; rw [e, decide_eq_true ha, Bool.true_and]
    rw [hodd]
    cases hc : plainC (nth s pos 0) with
    | true =>
     rw [if_neg (by simp), Bool.true_and]
     exact idxFunc_odd f (pos + 1) (by omega)
    | false =>
     rw [if_pos (by simp)]
     simp
   ·have h1 := decode_high (s := ⟨s.toArray⟩) (i := pos) (by rw [get_str hp]; exact ha)
    have hodd : oddR (Utf8.decode ⟨s.toArray⟩ pos).1 = true := by
     unfold oddR
     rw [decide_eq_false (by omega)]; rfl
    rw [if_pos hodd]
    have hc : plainC (nth s pos 0) = false := by
     have key : ∀ c : UInt8, ¬ c.toNat < 128 → plainC c = false := by unfold plainC letterB digitB' hasB oddText; exact u8_all (by decide +kernel)
     exact key _ ha
    rw [hc]; simp
  ·rw [if_neg hp, List.drop_of_length_le (by omega)]; rfl
theorem idxFunc_plain (s : List UInt8) : decide (0 ≤ Lib.idxFunc oddR true ⟨s.toArray⟩) = !s.all plainC := by
 have := idxFunc_odd (s := s) (⟨s.toArray⟩ : ByteArray).size 0 (by rw [size_str]; omega)
 rw [List.drop_zero] at this
 exact this

end Go.Tri
