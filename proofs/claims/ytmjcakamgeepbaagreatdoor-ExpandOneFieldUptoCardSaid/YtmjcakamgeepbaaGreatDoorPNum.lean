/-
 Numbers as texts, in plain words.
-/
import Derived.Test.YtmjcakamgeepbaaGreatDoorPOct
import Derived.Lib.SlTrimSet
namespace Go.Tri
open Go.RowKit
def decV (acc : Nat) : List UInt8 → Option Nat
 | [] => some acc
 | c :: r => if digitB' c then decV (acc * 10 + (c.toNat - 48)) r else none
theorem decV_app (l r : List UInt8) : ∀ acc, decV acc (l ++ r) = (decV acc l).bind fun v => decV v r := by
 induction l with
 | nil => intro acc; rfl
 | cons c l ih =>
  intro acc
  rw [List.cons_append, decV, decV]
  split
  ·exact ih _
  ·rfl
theorem decV_ge : ∀ (l : List UInt8) (acc v : Nat), decV acc l = some v → acc ≤ v
 | [], acc, v, h => by cases h; exact Nat.le_refl _
 | c :: l, acc, v, h => by
  rw [decV] at h
  split at h
  ·have := decV_ge l _ _ h; omega
  ·cases h
theorem decV_take {t : List UInt8} {i : Nat} (h : i < t.length) {v : Nat} (hv : decV 0 (t.take i) = some v) : decV 0 (t.take (i + 1)) = if digitB' (nth t i 0) then some (v * 10 + ((nth t i 0).toNat - 48)) else none := by
 rw [take_nth 0 h, decV_app, hv, Option.bind_some]
 rfl
theorem decV_split (t : List UInt8) (i : Nat) : decV 0 t = (decV 0 (t.take i)).bind fun v => decV v (t.drop i) := by
 conv => lhs; rw [← List.take_append_drop i t]
 exact decV_app _ _ _
def signed (s : List UInt8) : Bool := decide (s ≠ []) && (decide (nth s 0 0 = 43) || decide (nth s 0 0 = 45))
def numT (s : List UInt8) : List UInt8 := if signed s then s.drop 1 else s
def minusB (s : List UInt8) : Bool := signed s && decide (nth s 0 0 = 45)
def two63 : Nat := 9223372036854775808
def numB (s : List UInt8) : Option Int :=
 if numT s = [] then none else (decV 0 (numT s)).bind fun v => if minusB s then (if v ≤ two63 then some (-(v : Int)) else none) else if v < two63 then some (v : Int) else none
theorem digit_iff (c : UInt8) : digitB' c = true ↔ (48 ≤ c.toNat ∧ c.toNat ≤ 57) := by
 unfold digitB'
 rw [Bool.and_eq_true, decide_eq_true_eq, decide_eq_true_eq]
 omega
/-! digits -/
theorem digits_lt {u : Nat} (h : u < 10) : Lib.decDigits u = [UInt8.ofNat (48 + u % 10)] := by
 rw [Lib.decDigits, dif_pos h, Nat.mod_eq_of_lt h]
theorem digits_ge {u : Nat} (h : ¬ u < 10) : Lib.decDigits u = Lib.decDigits (u / 10) ++ [UInt8.ofNat (48 + u % 10)] := by
 rw [Lib.decDigits, dif_neg h]
/-! the reference's loops -/
theorem tmod_neg (u : Nat) : (-(u : Int)).tmod 10 = -((u % 10 : Nat) : Int) := by
 rw [Int.neg_tmod]; rfl
theorem tdiv_neg (u : Nat) : (-(u : Int)).tdiv 10 = -((u / 10 : Nat) : Int) := by
 rw [Int.neg_tdiv]; rfl
theorem least_div (d : Nat) (h : d ≤ 9) : ((-9223372036854775808 : Int) + (d : Int)).tdiv 10 = -(((9223372036854775808 - d) / 10 : Nat) : Int) := by
 have e : ((-9223372036854775808 : Int) + (d : Int)) = -((9223372036854775808 - d : Nat) : Int) := by omega
 rw [e, tdiv_neg]
theorem numR_step {v d : Nat} (h : ¬ (-(v : Int) < -(((9223372036854775808 - d) / 10 : Nat) : Int))) (hd : d ≤ 9) : v * 10 + d ≤ 9223372036854775808 := by omega
theorem numR_fail {v d : Nat} (h : -(v : Int) < -(((9223372036854775808 - d) / 10 : Nat) : Int)) (hd : d ≤ 9) : 9223372036854775808 < v * 10 + d := by omega
theorem numB_big {s : List UInt8} {v : Nat} {r : List UInt8} {i : Nat} (hv : decV 0 ((numT s).take i) = some v) (hr : (numT s).drop i = r) (hb : two63 < v) : numB s = none := by
 unfold numB
 split
 ·rfl
 ·rw [decV_split _ i, hv, Option.bind_some]
  cases hx : decV v ((numT s).drop i) with
  | none => rfl
  | some u =>
   have := decV_ge _ _ _ hx
   rw [Option.bind_some]
   unfold two63 at *
   split
   ·rw [if_neg (by omega)]
   ·rw [if_neg (by omega)]
theorem numB_bad {s : List UInt8} {i : Nat} (hi : i < (numT s).length) (hd : digitB' (nth (numT s) i 0) = false) : numB s = none := by
 unfold numB
 split
 ·rfl
 ·have : decV 0 (numT s) = none := by
   rw [decV_split _ i]
   cases hx : decV 0 ((numT s).take i) with
   | none => rfl
   | some v =>
    rw [Option.bind_some, drop_nth 0 hi, decV, if_neg (by simp [hd])]
  rw [this]; rfl
end Go.Tri
