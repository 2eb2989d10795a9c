/-
  Numbers of base 8.
-/
import Derived.Test.YtigfpkcaakkgaaaDoorPNum
import Derived.Test.YtigfpkcaakkgaaaDoorTriB21
namespace Go.Tri
open Go.RowKit
def octF : Nat → Nat → List UInt8
  | 0, n => [UInt8.ofNat (48 + n)]
  | f + 1, n => if n < 8 then [UInt8.ofNat (48 + n)] else octF f (n / 8) ++ [UInt8.ofNat (48 + n % 8)]
/-- a number's digits of base 8 -/
def octL (n : Nat) : List UInt8 := octF n n
theorem octF_fuel : ∀ (f g n : Nat), n < 8 ^ (f + 1) → n < 8 ^ (g + 1) → octF f n = octF g n
  | 0, 0, _, _, _ => rfl
  | 0, g + 1, n, h, _ => by
    have : n < 8 := by simpa using h
    rw [octF, octF, if_pos this]
  | f + 1, 0, n, _, h => by
    have : n < 8 := by simpa using h
    rw [octF, octF, if_pos this]
  | f + 1, g + 1, n, hf, hg => by
    rw [octF, octF]
    by_cases h : n < 8
    · rw [if_pos h, if_pos h]
    · rw [if_neg h, if_neg h]
      rw [octF_fuel f g (n / 8) (by rw [Nat.pow_succ] at hf; omega) (by rw [Nat.pow_succ] at hg; omega)]
theorem lt_pow8 (n : Nat) : n < 8 ^ (n + 1) := by
  have := Nat.lt_pow_self (n := n + 1) (a := 8) (by decide)
  omega
theorem octL_small {n : Nat} (h : n < 8) : octL n = [UInt8.ofNat (48 + n)] := by
  unfold octL
  rw [octF_fuel n 0 n (lt_pow8 n) (by simpa using h)]; rfl
theorem octL_step {n : Nat} (h : 8 ≤ n) : octL n = octL (n / 8) ++ [UInt8.ofNat (48 + n % 8)] := by
  unfold octL
  obtain ⟨m, rfl⟩ : ∃ m, n = m + 1 := ⟨n - 1, by omega⟩
  rw [octF, if_neg (by omega)]
  congr 1
  have h1 := lt_pow8 ((m + 1) / 8)
  have h2 := lt_pow8 m
  exact octF_fuel _ _ _ (by omega) h1
def digB (c : UInt8) : Bool := decide (48 ≤ c.toNat) && decide (c.toNat ≤ 55)
/-- what digits are worth -/
def octV (s : List UInt8) : Nat := s.foldl (fun n c => n * 8 + (c.toNat - 48)) 0
theorem octV_snoc (s : List UInt8) (c : UInt8) : octV (s ++ [c]) = octV s * 8 + (c.toNat - 48) := by
  unfold octV; rw [List.foldl_append]; rfl
theorem octV_lt : ∀ (n : Nat) (s : List UInt8), s.length ≤ n → s.all digB = true → octV s < 8 ^ s.length := by
  intro n
  induction n with
  | zero => intro s h _; rw [List.eq_nil_of_length_eq_zero (Nat.le_zero.1 h)]; decide
  | succ n ih =>
    intro s h hd
    rcases List.eq_nil_or_concat s with rfl | ⟨t, c, rfl⟩
    · decide
    · rw [List.concat_eq_append] at *
      rw [List.length_append, List.length_singleton] at h
      rw [List.all_append, Bool.and_eq_true] at hd
      have h1 := ih t (by omega) hd.1
      have h2 : digB c = true := by simpa using hd.2
      unfold digB at h2
      rw [Bool.and_eq_true, decide_eq_true_eq, decide_eq_true_eq] at h2
      rw [octV_snoc, List.length_append, List.length_singleton, Nat.pow_succ]
      omega
/-- a text's number of base 8 -/
def fromO (s : List UInt8) : Nat × Bool := if s ≠ [] ∧ s.length ≤ 6 ∧ s.all digB = true then (octV s, true) else (0, false)
theorem octL_all (n : Nat) : (octL n).all digB = true := by
  induction n using Nat.strongRecOn with
  | ind n ih =>
    have one : ∀ k, k < 8 → digB (UInt8.ofNat (48 + k)) = true := by
      intro k hk
      unfold digB
      rw [UInt8.toNat_ofNat']
      simp; omega
    by_cases h : n < 8
    · rw [octL_small h]
      show (digB _ && true) = true
      rw [one n h]; rfl
    · rw [octL_step (by omega), List.all_append, ih (n / 8) (by omega)]
      show (true && (digB _ && true)) = true
      rw [one (n % 8) (by omega)]; rfl
theorem octL_val (n : Nat) : octV (octL n) = n := by
  induction n using Nat.strongRecOn with
  | ind n ih =>
    have one : ∀ k, k < 8 → (UInt8.ofNat (48 + k)).toNat - 48 = k := by
      intro k hk
      rw [UInt8.toNat_ofNat']; omega
    by_cases h : n < 8
    · rw [octL_small h]
      show 0 * 8 + ((UInt8.ofNat (48 + n)).toNat - 48) = n
      rw [one n h]; omega
    · rw [octL_step (by omega), octV_snoc, ih (n / 8) (by omega), one (n % 8) (by omega)]; omega
theorem octL_ne (n : Nat) : octL n ≠ [] := by
  by_cases h : n < 8
  · rw [octL_small h]; simp
  · rw [octL_step (by omega)]; simp
theorem octL_len : ∀ (k n : Nat), n < 8 ^ (k + 1) → (octL n).length ≤ k + 1
  | 0, n, h => by rw [octL_small (by simpa using h)]; simp
  | k + 1, n, h => by
    by_cases h8 : n < 8
    · rw [octL_small h8]; simp
    · rw [octL_step (by omega), List.length_append, List.length_singleton]
      have := octL_len k (n / 8) (by rw [Nat.pow_succ] at h; omega)
      omega
theorem octals_back {n : Nat} (h : n < 262144) : fromO (octL n) = (n, true) := by
  unfold fromO
  rw [if_pos ⟨octL_ne n, octL_len 5 n (by simpa using h), octL_all n⟩, octL_val]
end Go.Tri
