/-
 Numbers as texts, in plain words.
-/
import Derived.Test.YthjgbalcngkjjaaGreatDoorPOct
import Derived.Lib.SlTrimSet
namespace Go.Tri
open Go.RowKit
def Em (acc : Nat) : List UInt8 → Option Nat
 | [] => some acc
 | c :: r => if DQ c then Em (acc * 10 + (c.toNat - 48)) r else none
theorem N3 (l r : List UInt8) : ∀ acc, Em acc (l ++ r) = (Em acc l).bind fun v => Em v r := by
 induction l with
 | nil => intro acc; rfl
 | cons c l ih =>
  intro acc
  rw [List.cons_append, Em, Em]
  split
  ·exact ih _
  ·rfl
theorem QN : ∀ (l : List UInt8) (acc v : Nat), Em acc l = some v → acc ≤ v
 | [], acc, v, h => by cases h; exact Nat.le_refl _
 | c :: l, acc, v, h => by
  rw [Em] at h
  split at h
  ·have := QN l _ _ h; omega
  ·cases h
theorem W7 {t : List UInt8} {i : Nat} (h : i < t.length) {v : Nat} (hv : Em 0 (t.take i) = some v) : Em 0 (t.take (i + 1)) = if DQ (nth t i 0) then some (v * 10 + ((nth t i 0).toNat - 48)) else none := by
 rw [D2 0 h, N3, hv, Option.bind_some]
 rfl
theorem N8 (t : List UInt8) (i : Nat) : Em 0 t = (Em 0 (t.take i)).bind fun v => Em v (t.drop i) := by
 conv => lhs; rw [← List.take_append_drop i t]
 exact N3 _ _ _
def signed (s : List UInt8) : Bool := decide (s ≠ []) && (decide (nth s 0 0 = 43) || decide (nth s 0 0 = 45))
def GZ (s : List UInt8) : List UInt8 := if signed s then s.drop 1 else s
def IT (s : List UInt8) : Bool := signed s && decide (nth s 0 0 = 45)
def GA : Nat := 9223372036854775808
def ER (s : List UInt8) : Option Int :=
 if GZ s = [] then none else (Em 0 (GZ s)).bind fun v => if IT s then (if v ≤ GA then some (-(v : Int)) else none) else if v < GA then some (v : Int) else none
def AEw {α : Type} : Lib.NumEnd α → Option α
 | .ok v => some v
 | _ => none
theorem IA (c : UInt8) : DQ c = true ↔ (48 ≤ c.toNat ∧ c.toNat ≤ 57) := by
 unfold DQ
 rw [Bool.and_eq_true, decide_eq_true_eq, decide_eq_true_eq]
 omega
theorem Xa : ∀ (l : List UInt8) (acc : Nat), acc ≤ 2 ^ 64 - 1 → AEw (Lib.parseUintM (2 ^ 64 - 1) acc l) = (Em acc l).bind fun v => if v ≤ 2 ^ 64 - 1 then some v else none
 | [], acc, h => by
  show some acc = (if acc ≤ 2 ^ 64 - 1 then some acc else none)
  rw [if_pos h]
 | c :: l, acc, h => by
  rw [Lib.parseUintM, Em]
  by_cases hd : DQ c = true
  ·have hd' := (IA c).1 hd
   rw [if_pos hd, if_pos hd']
   have big : 2 ^ 64 - 1 < acc * 10 + (c.toNat - 48) → (Em (acc * 10 + (c.toNat - 48)) l).bind (fun v => if v ≤ 2 ^ 64 - 1 then some v else none) = none := fun hb => by
    cases hx : Em (acc * 10 + (c.toNat - 48)) l with
    | none => rfl
    | some v =>
     have := QN _ _ _ hx
     rw [Option.bind_some, if_neg (by omega)]
   split
   ·rename_i h1
    rw [big (by omega)]; rfl
   ·split
    ·rename_i h2
     rw [big h2]; rfl
    ·rename_i h2
     exact Xa l _ (by omega)
  ·have hd' := fun h => hd ((IA c).2 h)
   rw [if_neg hd, if_neg hd']; rfl
theorem AFQ (l : List UInt8) (hl : l ≠ []) : AEw (Lib.parseUintB 64 l) = (Em 0 l).bind fun v => if v ≤ 2 ^ 64 - 1 then some v else none := by
 unfold Lib.parseUintB
 rw [if_neg hl]
 exact Xa l 0 (by omega)
theorem TL (b : Bool) (v : Nat) (h : ¬ v ≤ 2 ^ 64 - 1) : (if b = true then (if v ≤ GA then some (-(v : Int)) else none) else if v < GA then some (v : Int) else none) = none := by
 unfold GA
 cases b
 ·rw [if_neg (by simp), if_neg (by omega)]
 ·rw [if_pos rfl, if_neg (by omega)]
theorem Vv (s : List UInt8) : AEw (Lib.parseIntB 64 s) = ER s := by
 cases s with
 | nil => rfl
 | cons c r =>
  unfold Lib.parseIntB ER
  have e43 : ∀ c : UInt8, c.toNat = 43 ↔ c = 43 := fun c => ⟨fun h => UInt8.toNat_inj.1 h, fun h => by rw [h]; rfl⟩
  have e45 : ∀ c : UInt8, c.toNat = 45 ↔ c = 45 := fun c => ⟨fun h => UInt8.toNat_inj.1 h, fun h => by rw [h]; rfl⟩
  have ht : (if c.toNat = 43 ∨ c.toNat = 45 then r else c :: r) = GZ (c :: r) := by
   unfold GZ signed
   show _ = if (decide (c :: r ≠ []) && (decide (c = 43) || decide (c = 45))) = true then r else c :: r
   by_cases h1 : c = 43 <;> by_cases h2 : c = 45 <;> simp [h1, h2, e43, e45]
  have hm : IT (c :: r) = decide (c.toNat = 45) := by
   unfold IT signed
   show (decide (c :: r ≠ []) && (decide (c = 43) || decide (c = 45)) && decide (c = 45)) = _
   by_cases h2 : c = 45 <;> simp [h2, e45]
  simp only [ht, hm]
  by_cases hn : GZ (c :: r) = []
  ·rw [if_pos hn, hn]; rfl
  ·rw [if_neg hn]
   have hp := AFQ (GZ (c :: r)) hn
   cases hd : Em 0 (GZ (c :: r)) with
   | none =>
    rw [hd] at hp
    cases hu : Lib.parseUintB 64 (GZ (c :: r)) with
    | ok u => rw [hu] at hp; cases hp
    | _ => rfl
   | some v =>
    rw [hd, Option.bind_some] at hp
    rw [Option.bind_some]
    cases hu : Lib.parseUintB 64 (GZ (c :: r)) with
    | ok u =>
     rw [hu] at hp
     split at hp
     ·have huv : u = v := by
       have : some u = some v := hp
       injection this
      subst huv
      unfold GA
      by_cases AHx : c.toNat = 45
      ·simp only [AHx, decide_true, if_true, not_true_eq_false, false_and, if_false, true_and]
       by_cases hx : 2 ^ (64 - 1) < u
       ·rw [if_pos hx, if_neg (by omega)]; rfl
       ·rw [if_neg hx, if_pos (by omega)]; rfl
      ·simp only [AHx, decide_false, if_false, not_false_eq_true, true_and, false_and, Bool.false_eq_true]
       by_cases hx : 2 ^ (64 - 1) ≤ u
       ·rw [if_pos hx, if_neg (by omega)]; rfl
       ·rw [if_neg hx, if_pos (by omega)]; rfl
     ·cases hp
    | _ =>
     rw [hu] at hp
     split at hp
     ·cases hp
     ·rename_i hv
      exact (TL _ v hv).symm
theorem Qy (s : List UInt8) : (∃ v, Lib.parseIntB 64 s = .ok v ∧ ER s = some v) ∨ (ER s = none ∧ (Lib.parseIntB 64 s = Lib.parseIntB 64 [] ∨ Lib.parseIntB 64 s = .range)) := by
 have h := Vv s
 cases hp : Lib.parseIntB 64 s with
 | ok v => rw [hp] at h; exact .inl ⟨v, rfl, h.symm⟩
 | range => rw [hp] at h; exact .inr ⟨h.symm, .inr rfl⟩
 | _ => rw [hp] at h; exact .inr ⟨h.symm, .inl rfl⟩
def Ln : List UInt8 := [43, 45, 48, 49, 50, 51, 52, 53, 54, 55, 56, 57]
theorem TD : ∀ (l : List UInt8) (acc v : Nat), Em acc l = some v → ∀ c ∈ l, Ln.contains c = true
 | [], _, _, _, _, h => by cases h
 | d :: l, acc, v, h, c, hc => by
  rw [Em] at h
  split at h
  ·rename_i hd
   rcases List.mem_cons.1 hc with rfl | hc
   ·have key : ∀ c : UInt8, DQ c = true → Ln.contains c = true := Ps (by unfold DQ Ln; decide +kernel)
    exact key _ hd
   ·exact TD l _ _ h c hc
  ·cases h
theorem Yw {s : List UInt8} {v : Int} (h : ER s = some v) : ∀ c ∈ s, Ln.contains c = true := by
 unfold ER at h
 split at h
 ·cases h
 ·rw [Option.bind_eq_some_iff] at h
  obtain ⟨u, hu, _⟩ := h
  have h1 := TD _ _ _ hu
  intro c hc
  unfold GZ at h1
  cases hs : signed s with
  | false => rw [hs, if_neg (by simp)] at h1; exact h1 c hc
  | true =>
   rw [hs, if_pos rfl] at h1
   cases s with
   | nil => cases hc
   | cons d r =>
    rcases List.mem_cons.1 hc with rfl | hc
    ·unfold signed at hs
     simp [nth] at hs
     rcases hs with rfl | rfl <;> decide
    ·exact h1 c (by simpa using hc)
theorem Y2 {s cs : List UInt8} (h : ∀ c ∈ s, cs.contains c = true) : Lib.trimS s cs = [] := by
 have hd : ∀ l : List UInt8, (∀ c ∈ l, cs.contains c = true) → l.dropWhile (cs.contains ·) = [] := by
  intro l
  induction l with
  | nil => intro _; rfl
  | cons c l ih =>
   intro h
   rw [List.dropWhile_cons, if_pos (h c List.mem_cons_self)]
   exact ih fun d hd => h d (List.mem_cons_of_mem _ hd)
 unfold Lib.trimS Lib.trimRightS Lib.trimLeftS
 rw [hd s.reverse (fun c hc => h c (by simpa using hc))]; rfl
theorem V4 {s : List UInt8} (h : Lib.trimS s Ln ≠ []) : ER s = none := by
 cases hn : ER s with
 | none => rfl
 | some v => exact absurd (Y2 (Yw hn)) h

theorem EC {u : Nat} (h : u < 10) : Lib.decDigits u = [UInt8.ofNat (48 + u % 10)] := by
 rw [Lib.decDigits, dif_pos h, Nat.mod_eq_of_lt h]
theorem FT {u : Nat} (h : ¬ u < 10) : Lib.decDigits u = Lib.decDigits (u / 10) ++ [UInt8.ofNat (48 + u % 10)] := by
 rw [Lib.decDigits, dif_neg h]
theorem QG (u : Nat) : (UInt8.ofNat (48 + u % 10)).toNat = 48 + u % 10 := by
 rw [UInt8.toNat_ofNat']
 omega
theorem Ly (u : Nat) : DQ (UInt8.ofNat (48 + u % 10)) = true := by
 rw [IA, QG]; omega
theorem MO (u : Nat) : Em 0 (Lib.decDigits u) = some u := by
 induction u using Nat.strongRecOn with
 | _ u ih =>
  by_cases h : u < 10
  ·rw [EC h, Em, if_pos (Ly u), QG, Em]
   congr 1; omega
  ·rw [FT h, N3, ih (u / 10) (by omega), Option.bind_some, Em, if_pos (Ly u), QG, Em]
   congr 1; omega
theorem L4 (u : Nat) : Lib.decDigits u ≠ [] := by
 by_cases h : u < 10
 ·rw [EC h]; simp
 ·rw [FT h]; simp
theorem Rz (u : Nat) : DQ (nth (Lib.decDigits u) 0 0) = true := by
 induction u using Nat.strongRecOn with
 | _ u ih =>
  by_cases h : u < 10
  ·rw [EC h]; exact Ly u
  ·rw [FT h]
   have := ih (u / 10) (by omega)
   have hp := List.length_pos_iff.2 (L4 (u / 10))
   have e : nth (Lib.decDigits (u / 10) ++ [UInt8.ofNat (48 + u % 10)]) 0 0 = nth (Lib.decDigits (u / 10)) 0 0 := by
    unfold nth
    rw [List.getD_eq_getElem?_getD, List.getD_eq_getElem?_getD, List.getElem?_append_left hp]
   rw [e]; exact this
theorem Rg {s : List UInt8} (h : DQ (nth s 0 0) = true) : signed s = false := by
 have := (IA _).1 h
 unfold signed
 have h1 : ¬ nth s 0 0 = 43 := fun e => by rw [e] at this; revert this; decide
 have h2 : ¬ nth s 0 0 = 45 := fun e => by rw [e] at this; revert this; decide
 simp [h1, h2]
theorem Tr {s : List UInt8} {v : Nat} (hs : s ≠ []) (h : DQ (nth s 0 0) = true) (hv : Em 0 s = some v) (hl : v < GA) : ER s = some (v : Int) := by
 have h1 := Rg h
 unfold ER GZ IT
 rw [h1, if_neg (by simp : ¬ false = true), if_neg hs, hv, Option.bind_some, Bool.false_and, if_neg (by simp), if_pos hl]
theorem Ul {s : List UInt8} {v : Nat} (hs : s ≠ []) (hv : Em 0 s = some v) (hl : v ≤ GA) : ER (45 :: s) = some (-(v : Int)) := by
 have h1 : signed (45 :: s) = true := rfl
 unfold ER GZ IT
 rw [h1, if_pos rfl, List.drop_succ_cons, List.drop_zero, if_neg hs, hv, Option.bind_some]
 show (if (true && decide ((45 : UInt8) = 45)) = true then _ else _) = _
 rw [if_pos (by decide), if_pos hl]
theorem L5 {n : Int} (h : -9223372036854775808 ≤ n ∧ n ≤ 9223372036854775807) : ER (Lib.itoa n) = some n := by
 unfold Lib.itoa
 split
 ·rename_i hn
  rw [Ul (L4 _) (MO _) (by unfold GA; omega)]
  congr 1; omega
 ·rename_i hn
  rw [Tr (L4 _) (Rz _) (MO _) (by unfold GA; omega)]
  congr 1; omega
theorem Ri (u : Nat) : (-(u : Int)).tmod 10 = -((u % 10 : Nat) : Int) := by
 rw [Int.neg_tmod]; rfl
theorem Jk (u : Nat) : (-(u : Int)).tdiv 10 = -((u / 10 : Nat) : Int) := by
 rw [Int.neg_tdiv]; rfl
theorem Lx (d : Nat) (h : d ≤ 9) : ((-9223372036854775808 : Int) + (d : Int)).tdiv 10 = -(((9223372036854775808 - d) / 10 : Nat) : Int) := by
 have e : ((-9223372036854775808 : Int) + (d : Int)) = -((9223372036854775808 - d : Nat) : Int) := by omega
 rw [e, Jk]
theorem WP {v d : Nat} (h : ¬ (-(v : Int) < -(((9223372036854775808 - d) / 10 : Nat) : Int))) (hd : d ≤ 9) : v * 10 + d ≤ 9223372036854775808 := by omega
theorem Wh {v d : Nat} (h : -(v : Int) < -(((9223372036854775808 - d) / 10 : Nat) : Int)) (hd : d ≤ 9) : 9223372036854775808 < v * 10 + d := by omega
theorem Z8 {s : List UInt8} {v : Nat} {r : List UInt8} {i : Nat} (hv : Em 0 ((GZ s).take i) = some v) (hr : (GZ s).drop i = r) (hb : GA < v) : ER s = none := by
 unfold ER
 split
 ·rfl
 ·rw [N8 _ i, hv, Option.bind_some]
  cases hx : Em v ((GZ s).drop i) with
  | none => rfl
  | some u =>
   have := QN _ _ _ hx
   rw [Option.bind_some]
   unfold GA at *
   split
   ·rw [if_neg (by omega)]
   ·rw [if_neg (by omega)]
theorem Zg {s : List UInt8} {i : Nat} (hi : i < (GZ s).length) (hd : DQ (nth (GZ s) i 0) = false) : ER s = none := by
 unfold ER
 split
 ·rfl
 ·have : Em 0 (GZ s) = none := by
   rw [N8 _ i]
   cases hx : Em 0 ((GZ s).take i) with
   | none => rfl
   | some v =>
    rw [Option.bind_some, Bi 0 hi, Em, if_neg (by simp [hd])]
  rw [this]; rfl
end Go.Tri
