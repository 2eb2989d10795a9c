/-
  Numbers as texts, in plain words.
-/
import Derived.Test.YtjdcefhllbfacaaDoorPOct
import Derived.Lib.SlTrimSet
namespace Go.Tri
open Go.RowKit
def decV (acc : Nat) : List UInt8 → Option Nat
  | [] => some acc
  | c :: r => if digitB' c then decV (acc * 10 + (c.toNat - 48)) r else none
theorem decV_app (l r : List UInt8) : ∀ acc, decV acc (l ++ r) = (decV acc l).bind fun v => decV v r := by
  induction l with
  | nil => intro acc; rfl
  | cons c l ih =>
    intro acc
    rw [List.cons_append, decV, decV]
    split
    · exact ih _
    · rfl
theorem decV_ge : ∀ (l : List UInt8) (acc v : Nat), decV acc l = some v → acc ≤ v
  | [], acc, v, h => by cases h; exact Nat.le_refl _
  | c :: l, acc, v, h => by
    rw [decV] at h
    split at h
    · have := decV_ge l _ _ h; omega
    · cases h
theorem decV_take {t : List UInt8} {i : Nat} (h : i < t.length) {v : Nat} (hv : decV 0 (t.take i) = some v) : decV 0 (t.take (i + 1)) = if digitB' (nth t i 0) then some (v * 10 + ((nth t i 0).toNat - 48)) else none := by
  rw [take_nth 0 h, decV_app, hv, Option.bind_some]
  rfl
theorem decV_split (t : List UInt8) (i : Nat) : decV 0 t = (decV 0 (t.take i)).bind fun v => decV v (t.drop i) := by
  conv => lhs; rw [← List.take_append_drop i t]
  exact decV_app _ _ _
def signed (s : List UInt8) : Bool := decide (s ≠ []) && (decide (nth s 0 0 = 43) || decide (nth s 0 0 = 45))
def numT (s : List UInt8) : List UInt8 := if signed s then s.drop 1 else s
def minusB (s : List UInt8) : Bool := signed s && decide (nth s 0 0 = 45)
def two63 : Nat := 9223372036854775808
def numB (s : List UInt8) : Option Int :=
  if numT s = [] then none else (decV 0 (numT s)).bind fun v => if minusB s then (if v ≤ two63 then some (-(v : Int)) else none) else if v < two63 then some (v : Int) else none
theorem numB_range {s : List UInt8} {v : Int} (h : numB s = some v) : -9223372036854775808 ≤ v ∧ v ≤ 9223372036854775807 := by
  unfold numB at h
  split at h
  · cases h
  · rw [Option.bind_eq_some_iff] at h
    obtain ⟨u, _, h⟩ := h
    unfold two63 at h
    split at h
    · split at h
      · cases h; omega
      · cases h
    · split at h
      · cases h; omega
      · cases h
def optN {α : Type} : Lib.NumEnd α → Option α
  | .ok v => some v
  | _ => none
theorem digit_iff (c : UInt8) : digitB' c = true ↔ (48 ≤ c.toNat ∧ c.toNat ≤ 57) := by
  unfold digitB'
  rw [Bool.and_eq_true, decide_eq_true_eq, decide_eq_true_eq]
  omega
theorem parseM : ∀ (l : List UInt8) (acc : Nat), acc ≤ 2 ^ 64 - 1 → optN (Lib.parseUintM (2 ^ 64 - 1) acc l) = (decV acc l).bind fun v => if v ≤ 2 ^ 64 - 1 then some v else none
  | [], acc, h => by
    show some acc = (if acc ≤ 2 ^ 64 - 1 then some acc else none)
    rw [if_pos h]
  | c :: l, acc, h => by
    rw [Lib.parseUintM, decV]
    by_cases hd : digitB' c = true
    · have hd' := (digit_iff c).1 hd
      rw [if_pos hd, if_pos hd']
      have big : 2 ^ 64 - 1 < acc * 10 + (c.toNat - 48) → (decV (acc * 10 + (c.toNat - 48)) l).bind (fun v => if v ≤ 2 ^ 64 - 1 then some v else none) = none := fun hb => by
        cases hx : decV (acc * 10 + (c.toNat - 48)) l with
        | none => rfl
        | some v =>
          have := decV_ge _ _ _ hx
          rw [Option.bind_some, if_neg (by omega)]
      split
      · rename_i h1
        rw [big (by omega)]; rfl
      · split
        · rename_i h2
          rw [big h2]; rfl
        · rename_i h2
          exact parseM l _ (by omega)
    · have hd' := fun h => hd ((digit_iff c).2 h)
      rw [if_neg hd, if_neg hd']; rfl
theorem parseU (l : List UInt8) (hl : l ≠ []) : optN (Lib.parseUintB 64 l) = (decV 0 l).bind fun v => if v ≤ 2 ^ 64 - 1 then some v else none := by
  unfold Lib.parseUintB
  rw [if_neg hl]
  exact parseM l 0 (by omega)
theorem big_none (b : Bool) (v : Nat) (h : ¬ v ≤ 2 ^ 64 - 1) : (if b = true then (if v ≤ two63 then some (-(v : Int)) else none) else if v < two63 then some (v : Int) else none) = none := by
  unfold two63
  cases b
  · rw [if_neg (by simp), if_neg (by omega)]
  · rw [if_pos rfl, if_neg (by omega)]
theorem parse_num (s : List UInt8) : optN (Lib.parseIntB 64 s) = numB s := by
  cases s with
  | nil => rfl
  | cons c r =>
    unfold Lib.parseIntB numB
    have e43 : ∀ c : UInt8, c.toNat = 43 ↔ c = 43 := fun c => ⟨fun h => UInt8.toNat_inj.1 h, fun h => by rw [h]; rfl⟩
    have e45 : ∀ c : UInt8, c.toNat = 45 ↔ c = 45 := fun c => ⟨fun h => UInt8.toNat_inj.1 h, fun h => by rw [h]; rfl⟩
    have ht : (if c.toNat = 43 ∨ c.toNat = 45 then r else c :: r) = numT (c :: r) := by
      unfold numT signed
      show _ = if (decide (c :: r ≠ []) && (decide (c = 43) || decide (c = 45))) = true then r else c :: r
      by_cases h1 : c = 43 <;> by_cases h2 : c = 45 <;> simp [h1, h2, e43, e45]
    have hm : minusB (c :: r) = decide (c.toNat = 45) := by
      unfold minusB signed
      show (decide (c :: r ≠ []) && (decide (c = 43) || decide (c = 45)) && decide (c = 45)) = _
      by_cases h2 : c = 45 <;> simp [h2, e45]
    simp only [ht, hm]
    by_cases hn : numT (c :: r) = []
    · rw [if_pos hn, hn]; rfl
    · rw [if_neg hn]
      have hp := parseU (numT (c :: r)) hn
      cases hd : decV 0 (numT (c :: r)) with
      | none =>
        rw [hd] at hp
        cases hu : Lib.parseUintB 64 (numT (c :: r)) with
        | ok u => rw [hu] at hp; cases hp
        | _ => rfl
      | some v =>
        rw [hd, Option.bind_some] at hp
        rw [Option.bind_some]
        cases hu : Lib.parseUintB 64 (numT (c :: r)) with
        | ok u =>
          rw [hu] at hp
          split at hp
          · have huv : u = v := by
              have : some u = some v := hp
              injection this
            subst huv
            unfold two63
            by_cases hneg : c.toNat = 45
            · simp only [hneg, decide_true, if_true, not_true_eq_false, false_and, if_false, true_and]
              by_cases hx : 2 ^ (64 - 1) < u
              · rw [if_pos hx, if_neg (by omega)]; rfl
              · rw [if_neg hx, if_pos (by omega)]; rfl
            · simp only [hneg, decide_false, if_false, not_false_eq_true, true_and, false_and, Bool.false_eq_true]
              by_cases hx : 2 ^ (64 - 1) ≤ u
              · rw [if_pos hx, if_neg (by omega)]; rfl
              · rw [if_neg hx, if_pos (by omega)]; rfl
          · cases hp
        | _ =>
          rw [hu] at hp
          split at hp
          · cases hp
          · rename_i hv
            exact (big_none _ v hv).symm
theorem parse_cases (s : List UInt8) : (∃ v, Lib.parseIntB 64 s = .ok v ∧ numB s = some v) ∨ (numB s = none ∧ (Lib.parseIntB 64 s = Lib.parseIntB 64 [] ∨ Lib.parseIntB 64 s = .range)) := by
  have h := parse_num s
  cases hp : Lib.parseIntB 64 s with
  | ok v => rw [hp] at h; exact .inl ⟨v, rfl, h.symm⟩
  | range => rw [hp] at h; exact .inr ⟨h.symm, .inr rfl⟩
  | _ => rw [hp] at h; exact .inr ⟨h.symm, .inl rfl⟩
/-- a text of signs and digits alone: what is told of others is none -/
def numSet : List UInt8 := [43, 45, 48, 49, 50, 51, 52, 53, 54, 55, 56, 57]
theorem decV_set : ∀ (l : List UInt8) (acc v : Nat), decV acc l = some v → ∀ c ∈ l, numSet.contains c = true
  | [], _, _, _, _, h => by cases h
  | d :: l, acc, v, h, c, hc => by
    rw [decV] at h
    split at h
    · rename_i hd
      rcases List.mem_cons.1 hc with rfl | hc
      · have key : ∀ c : UInt8, digitB' c = true → numSet.contains c = true := u8_all (by unfold digitB' numSet; decide +kernel)
        exact key _ hd
      · exact decV_set l _ _ h c hc
    · cases h
theorem numB_set {s : List UInt8} {v : Int} (h : numB s = some v) : ∀ c ∈ s, numSet.contains c = true := by
  unfold numB at h
  split at h
  · cases h
  · rw [Option.bind_eq_some_iff] at h
    obtain ⟨u, hu, _⟩ := h
    have h1 := decV_set _ _ _ hu
    intro c hc
    unfold numT at h1
    cases hs : signed s with
    | false => rw [hs, if_neg (by simp)] at h1; exact h1 c hc
    | true =>
      rw [hs, if_pos rfl] at h1
      cases s with
      | nil => cases hc
      | cons d r =>
        rcases List.mem_cons.1 hc with rfl | hc
        · unfold signed at hs
          simp [nth] at hs
          rcases hs with rfl | rfl <;> decide
        · exact h1 c (by simpa using hc)
theorem trim_all {s cs : List UInt8} (h : ∀ c ∈ s, cs.contains c = true) : Lib.trimS s cs = [] := by
  have hd : ∀ l : List UInt8, (∀ c ∈ l, cs.contains c = true) → l.dropWhile (cs.contains ·) = [] := by
    intro l
    induction l with
    | nil => intro _; rfl
    | cons c l ih =>
      intro h
      rw [List.dropWhile_cons, if_pos (h c List.mem_cons_self)]
      exact ih fun d hd => h d (List.mem_cons_of_mem _ hd)
  unfold Lib.trimS Lib.trimRightS Lib.trimLeftS
  rw [hd s.reverse (fun c hc => h c (by simpa using hc))]; rfl
/-- what octet.Number tells -/
theorem numB_trim {s : List UInt8} (h : Lib.trimS s numSet ≠ []) : numB s = none := by
  cases hn : numB s with
  | none => rfl
  | some v => exact absurd (trim_all (numB_set hn)) h

/-! digits -/
theorem digits_lt {u : Nat} (h : u < 10) : Lib.decDigits u = [UInt8.ofNat (48 + u % 10)] := by
  rw [Lib.decDigits, dif_pos h, Nat.mod_eq_of_lt h]
theorem digits_ge {u : Nat} (h : ¬ u < 10) : Lib.decDigits u = Lib.decDigits (u / 10) ++ [UInt8.ofNat (48 + u % 10)] := by
  rw [Lib.decDigits, dif_neg h]
theorem dig_nat (u : Nat) : (UInt8.ofNat (48 + u % 10)).toNat = 48 + u % 10 := by
  rw [UInt8.toNat_ofNat']
  omega
theorem dig_digit (u : Nat) : digitB' (UInt8.ofNat (48 + u % 10)) = true := by
  rw [digit_iff, dig_nat]; omega
theorem decV_digits (u : Nat) : decV 0 (Lib.decDigits u) = some u := by
  induction u using Nat.strongRecOn with
  | _ u ih =>
    by_cases h : u < 10
    · rw [digits_lt h, decV, if_pos (dig_digit u), dig_nat, decV]
      congr 1; omega
    · rw [digits_ge h, decV_app, ih (u / 10) (by omega), Option.bind_some, decV, if_pos (dig_digit u), dig_nat, decV]
      congr 1; omega
theorem digits_ne (u : Nat) : Lib.decDigits u ≠ [] := by
  by_cases h : u < 10
  · rw [digits_lt h]; simp
  · rw [digits_ge h]; simp
theorem digits_head (u : Nat) : digitB' (nth (Lib.decDigits u) 0 0) = true := by
  induction u using Nat.strongRecOn with
  | _ u ih =>
    by_cases h : u < 10
    · rw [digits_lt h]; exact dig_digit u
    · rw [digits_ge h]
      have := ih (u / 10) (by omega)
      have hp := List.length_pos_iff.2 (digits_ne (u / 10))
      have e : nth (Lib.decDigits (u / 10) ++ [UInt8.ofNat (48 + u % 10)]) 0 0 = nth (Lib.decDigits (u / 10)) 0 0 := by
        unfold nth
        rw [List.getD_eq_getElem?_getD, List.getD_eq_getElem?_getD, List.getElem?_append_left hp]
      rw [e]; exact this
theorem unsigned_of {s : List UInt8} (h : digitB' (nth s 0 0) = true) : signed s = false := by
  have := (digit_iff _).1 h
  unfold signed
  have h1 : ¬ nth s 0 0 = 43 := fun e => by rw [e] at this; revert this; decide
  have h2 : ¬ nth s 0 0 = 45 := fun e => by rw [e] at this; revert this; decide
  simp [h1, h2]
theorem numB_plain {s : List UInt8} {v : Nat} (hs : s ≠ []) (h : digitB' (nth s 0 0) = true) (hv : decV 0 s = some v) (hl : v < two63) : numB s = some (v : Int) := by
  have h1 := unsigned_of h
  unfold numB numT minusB
  rw [h1, if_neg (by simp : ¬ false = true), if_neg hs, hv, Option.bind_some, Bool.false_and, if_neg (by simp), if_pos hl]
theorem numB_minus {s : List UInt8} {v : Nat} (hs : s ≠ []) (hv : decV 0 s = some v) (hl : v ≤ two63) : numB (45 :: s) = some (-(v : Int)) := by
  have h1 : signed (45 :: s) = true := rfl
  unfold numB numT minusB
  rw [h1, if_pos rfl, List.drop_succ_cons, List.drop_zero, if_neg hs, hv, Option.bind_some]
  show (if (true && decide ((45 : UInt8) = 45)) = true then _ else _) = _
  rw [if_pos (by decide), if_pos hl]
theorem numB_plus {s : List UInt8} {v : Nat} (hs : s ≠ []) (hv : decV 0 s = some v) (hl : v < two63) : numB (43 :: s) = some (v : Int) := by
  have h1 : signed (43 :: s) = true := rfl
  unfold numB numT minusB
  rw [h1, if_pos rfl, List.drop_succ_cons, List.drop_zero, if_neg hs, hv, Option.bind_some]
  show (if (true && decide ((43 : UInt8) = 45)) = true then _ else _) = _
  rw [if_neg (by decide), if_pos hl]
theorem numB_itoa {n : Int} (h : -9223372036854775808 ≤ n ∧ n ≤ 9223372036854775807) : numB (Lib.itoa n) = some n := by
  unfold Lib.itoa
  split
  · rename_i hn
    rw [numB_minus (digits_ne _) (decV_digits _) (by unfold two63; omega)]
    congr 1; omega
  · rename_i hn
    rw [numB_plain (digits_ne _) (digits_head _) (decV_digits _) (by unfold two63; omega)]
    congr 1; omega
theorem decV_zeros (z : Nat) (l : List UInt8) : decV 0 (List.replicate z 48 ++ l) = decV 0 l := by
  induction z with
  | zero => rfl
  | succ z ih =>
    rw [List.replicate_succ, List.cons_append, decV, if_pos (by decide)]
    exact ih
theorem numB_twice (s : List UInt8) : numB (45 :: 45 :: s) = none := by
  have h1 : signed (45 :: 45 :: s) = true := rfl
  unfold numB numT
  rw [h1, if_pos rfl, List.drop_succ_cons, List.drop_zero, if_neg (by simp)]
  rfl
/-! the reference's loops -/
theorem tmod_neg (u : Nat) : (-(u : Int)).tmod 10 = -((u % 10 : Nat) : Int) := by
  rw [Int.neg_tmod]; rfl
theorem tdiv_neg (u : Nat) : (-(u : Int)).tdiv 10 = -((u / 10 : Nat) : Int) := by
  rw [Int.neg_tdiv]; rfl
theorem least_div (d : Nat) (h : d ≤ 9) : ((-9223372036854775808 : Int) + (d : Int)).tdiv 10 = -(((9223372036854775808 - d) / 10 : Nat) : Int) := by
  have e : ((-9223372036854775808 : Int) + (d : Int)) = -((9223372036854775808 - d : Nat) : Int) := by omega
  rw [e, tdiv_neg]
theorem numR_step {v d : Nat} (h : ¬ (-(v : Int) < -(((9223372036854775808 - d) / 10 : Nat) : Int))) (hd : d ≤ 9) : v * 10 + d ≤ 9223372036854775808 := by omega
theorem numR_fail {v d : Nat} (h : -(v : Int) < -(((9223372036854775808 - d) / 10 : Nat) : Int)) (hd : d ≤ 9) : 9223372036854775808 < v * 10 + d := by omega
theorem numB_big {s : List UInt8} {v : Nat} {r : List UInt8} {i : Nat} (hv : decV 0 ((numT s).take i) = some v) (hr : (numT s).drop i = r) (hb : two63 < v) : numB s = none := by
  unfold numB
  split
  · rfl
  · rw [decV_split _ i, hv, Option.bind_some]
    cases hx : decV v ((numT s).drop i) with
    | none => rfl
    | some u =>
      have := decV_ge _ _ _ hx
      rw [Option.bind_some]
      unfold two63 at *
      split
      · rw [if_neg (by omega)]
      · rw [if_neg (by omega)]
theorem numB_bad {s : List UInt8} {i : Nat} (hi : i < (numT s).length) (hd : digitB' (nth (numT s) i 0) = false) : numB s = none := by
  unfold numB
  split
  · rfl
  · have : decV 0 (numT s) = none := by
      rw [decV_split _ i]
      cases hx : decV 0 ((numT s).take i) with
      | none => rfl
      | some v =>
        rw [Option.bind_some, drop_nth 0 hi, decV, if_neg (by simp [hd])]
    rw [this]; rfl
end Go.Tri
