/-
 Runes of a text and single bytes, in plain words.
-/
import Derived.Test.YthjgbalcngkjjaaGreatDoorPOct
import Derived.Test.YthjgbalcngkjjaaGreatDoorTriZ
namespace Go.Tri
open Go.RowKit
theorem YT (r : Int) (h : 128 ≤ r) : 2 ≤ (Utf8.encode r).data.toList.length ∧ (Utf8.encode r).data.toList.length ≤ 4 ∧ ∀ b ∈ (Utf8.encode r).data.toList, 128 ≤ b.toNat := by
 have key : ∀ c : Nat, 128 ≤ c → c ≤ 1114111 → 2 ≤ (if c < 0x80 then (⟨#[UInt8.ofNat c]⟩ : ByteArray) else if c < 0x800 then ⟨#[UInt8.ofNat (0xC0 + c / 64), UInt8.ofNat (0x80 + c % 64)]⟩ else if c < 0x10000 then ⟨#[UInt8.ofNat (0xE0 + c / 4096), UInt8.ofNat (0x80 + c / 64 % 64), UInt8.ofNat (0x80 + c % 64)]⟩ else ⟨#[UInt8.ofNat (0xF0 + c / 262144), UInt8.ofNat (0x80 + c / 4096 % 64), UInt8.ofNat (0x80 + c / 64 % 64), UInt8.ofNat (0x80 + c % 64)]⟩).data.toList.length ∧
   (if c < 0x80 then (⟨#[UInt8.ofNat c]⟩ : ByteArray) else if c < 0x800 then ⟨#[UInt8.ofNat (0xC0 + c / 64), UInt8.ofNat (0x80 + c % 64)]⟩ else if c < 0x10000 then ⟨#[UInt8.ofNat (0xE0 + c / 4096), UInt8.ofNat (0x80 + c / 64 % 64), UInt8.ofNat (0x80 + c % 64)]⟩ else ⟨#[UInt8.ofNat (0xF0 + c / 262144), UInt8.ofNat (0x80 + c / 4096 % 64), UInt8.ofNat (0x80 + c / 64 % 64), UInt8.ofNat (0x80 + c % 64)]⟩).data.toList.length ≤ 4 ∧
   ∀ b ∈ (if c < 0x80 then (⟨#[UInt8.ofNat c]⟩ : ByteArray) else if c < 0x800 then ⟨#[UInt8.ofNat (0xC0 + c / 64), UInt8.ofNat (0x80 + c % 64)]⟩ else if c < 0x10000 then ⟨#[UInt8.ofNat (0xE0 + c / 4096), UInt8.ofNat (0x80 + c / 64 % 64), UInt8.ofNat (0x80 + c % 64)]⟩ else ⟨#[UInt8.ofNat (0xF0 + c / 262144), UInt8.ofNat (0x80 + c / 4096 % 64), UInt8.ofNat (0x80 + c / 64 % 64), UInt8.ofNat (0x80 + c % 64)]⟩).data.toList, 128 ≤ b.toNat := by
  intro c h1 h2
  have hn : ∀ n : Nat, 128 ≤ n → n < 256 → 128 ≤ (UInt8.ofNat n).toNat := fun n a b => by rw [UInt8.toNat_ofNat']; omega
  rw [if_neg (by omega)]
  split
  ·refine ⟨by simp, by simp, fun b hb => ?_⟩
   simp only [List.mem_cons, List.not_mem_nil, or_false] at hb
   rcases hb with rfl | rfl <;> exact hn _ (by omega) (by omega)
  ·split
   ·refine ⟨by simp, by simp, fun b hb => ?_⟩
    simp only [List.mem_cons, List.not_mem_nil, or_false] at hb
    rcases hb with rfl | rfl | rfl <;> exact hn _ (by omega) (by omega)
   ·refine ⟨by simp, by simp, fun b hb => ?_⟩
    simp only [List.mem_cons, List.not_mem_nil, or_false] at hb
    rcases hb with rfl | rfl | rfl | rfl <;> exact hn _ (by omega) (by omega)
 have hc : 128 ≤ (if Utf8.valid r then r.toNat else Utf8.runeError) ∧ (if Utf8.valid r then r.toNat else Utf8.runeError) ≤ 1114111 := by
  split
  ·rename_i hv
   unfold Utf8.valid at hv
   simp only [Bool.or_eq_true, Bool.and_eq_true, decide_eq_true_eq] at hv
   omega
  ·decide
 exact key _ hc.1 hc.2
theorem SP (s : List UInt8) (p : Nat) (h : p < s.length) : ((nth s p 0).toNat < 128 → Fi s p = ((nth s p 0).toNat, 1)) ∧
  (¬ (nth s p 0).toNat < 128 → 128 ≤ (Fi s p).1 ∧ 1 ≤ (Fi s p).2 ∧ p + (Fi s p).2 ≤ s.length ∧ ∀ k, k < (Fi s p).2 → 128 ≤ (nth s (p + k) 0).toNat) := by
 have hg : ∀ j, j < s.length → (⟨s.toArray⟩ : ByteArray).get! j = nth s j 0 := fun j hj => ACE hj
 refine ⟨fun h1 => ?_, fun h1 => ?_⟩
 ·unfold Fi
  rw [QJ (by rw [hg p h]; exact h1), hg p h]
 ·have XV : ∀ k, k < 1 → 128 ≤ (nth s (p + k) 0).toNat := fun k hk => by
   obtain rfl : k = 0 := by omega
   rw [Nat.add_zero]; omega
  have XN : ∀ k, (decide (p + k < (⟨s.toArray⟩ : ByteArray).size) && ((⟨s.toArray⟩ : ByteArray).get! (p + k)).toNat / 64 == 2) = true → p + k < s.length ∧ 128 ≤ (nth s (p + k) 0).toNat := fun k hk => by
   rw [Bool.and_eq_true, decide_eq_true_eq, DC, beq_iff_eq] at hk
   rw [hg _ hk.1] at hk
   exact ⟨hk.1, by omega⟩
  unfold Fi Utf8.decode
  simp only [Nat.add_zero]
  rw [if_neg (by rw [hg p h]; exact h1)]
  split
  ·rename_i c1
   rw [Bool.and_eq_true] at c1
   obtain ⟨l1, g1⟩ := XN 1 c1.2
   split
   ·rename_i c2
    refine ⟨c2, Nat.le_of_ble_eq_true rfl, l1, fun k hk => ?_⟩
    rcases (show k = 0 ∨ k = 1 by have : k < 2 := hk; omega) with rfl | rfl
    ·exact XV 0 (by decide)
    ·exact g1
   ·exact ⟨by decide, by decide, h, XV⟩
  ·split
   ·rename_i c1
    rw [Bool.and_eq_true, Bool.and_eq_true] at c1
    obtain ⟨l1, g1⟩ := XN 1 c1.1.2
    obtain ⟨l2, g2⟩ := XN 2 c1.2
    split
    ·rename_i c2
     simp only [Bool.and_eq_true, decide_eq_true_eq] at c2
     refine ⟨by omega, Nat.le_of_ble_eq_true rfl, l2, fun k hk => ?_⟩
     rcases (show k = 0 ∨ k = 1 ∨ k = 2 by have : k < 3 := hk; omega) with rfl | rfl | rfl
     ·exact XV 0 (by decide)
     ·exact g1
     ·exact g2
    ·exact ⟨by decide, by decide, h, XV⟩
   ·split
    ·rename_i c1
     rw [Bool.and_eq_true, Bool.and_eq_true, Bool.and_eq_true] at c1
     obtain ⟨l1, g1⟩ := XN 1 c1.1.1.2
     obtain ⟨l2, g2⟩ := XN 2 c1.1.2
     obtain ⟨l3, g3⟩ := XN 3 c1.2
     split
     ·rename_i c2
      simp only [Bool.and_eq_true, decide_eq_true_eq] at c2
      refine ⟨by omega, Nat.le_of_ble_eq_true rfl, l3, fun k hk => ?_⟩
      rcases (show k = 0 ∨ k = 1 ∨ k = 2 ∨ k = 3 by have : k < 4 := hk; omega) with rfl | rfl | rfl | rfl
      ·exact XV 0 (by decide)
      ·exact g1
      ·exact g2
      ·exact g3
     ·exact ⟨by decide, by decide, h, XV⟩
    ·exact ⟨by decide, by decide, h, XV⟩
def EG (s chars : List UInt8) : Bool := s.any (DX chars)
def KE (l : List UInt8) : Prop := ∀ b ∈ l, b.toNat < 128
theorem PJ {l : List UInt8} (h : KE l) {c : UInt8} (hc : 128 ≤ c.toNat) : DX l c = false := by
 unfold DX
 rw [List.any_eq_false]
 intro b hb e
 have := h b hb
 rw [beq_iff_eq] at e
 subst e; omega
theorem Up {l : List UInt8} (h : KE l) (k : Nat) : KE (l.drop k) := fun b hb => h b (List.mem_of_mem_drop hb)
theorem ABO {l : List UInt8} {c : UInt8} (h : DX l c = false) : Lib.indexByte l c < 0 := by
 rw [← Dn] at h
 simpa using h
theorem Rc {s chars : List UInt8} {p : Nat} (h : p < s.length) : EG (s.take (p + 1)) chars = (EG (s.take p) chars || DX chars (nth s p 0)) := by
 unfold EG; rw [D2 0 h, List.any_append]; simp
theorem RZ {s chars : List UInt8} {p : Nat} (hc : KE chars) : ∀ n, p + n ≤ s.length → (∀ k, k < n → 128 ≤ (nth s (p + k) 0).toNat) → EG (s.take (p + n)) chars = EG (s.take p) chars
 | 0, _, _ => rfl
 | n + 1, h1, h2 => by
  rw [show p + (n + 1) = (p + n) + 1 by omega, Rc (by omega), RZ hc n (by omega) (fun k hk => h2 k (by omega)), PJ hc (h2 n (by omega)), Bool.or_false]
theorem AAT {s chars : List UInt8} {p : Nat} (h : p < s.length) (h2 : DX chars (nth s p 0) = true) : EG s chars = true := by
 unfold EG
 rw [List.any_eq_true]
 exact ⟨_, DG h, h2⟩
end Go.Tri
