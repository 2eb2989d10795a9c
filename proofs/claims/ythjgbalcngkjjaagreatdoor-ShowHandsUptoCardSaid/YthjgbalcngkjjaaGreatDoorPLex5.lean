/-
 What a line of a shell text is read as: quotes and substitutions, in plain words, over what is left of the text.
-/
import Derived.Test.YthjgbalcngkjjaaGreatDoorPOct
import Derived.Lib.SlTrimSet
import Derived.Test.YthjgbalcngkjjaaGreatDoorPAny
import Derived.Lib.TrimByte
namespace Go.Tri
open Go.RowKit
inductive SR where
 | ok (k : Nat)
 | bad (a e : Nat)
 deriving DecidableEq
inductive LR where
 | ok (k : Nat)
 | bad (a e : Nat)
 | out
 deriving DecidableEq
def SR.on (k : Nat) : SR → SR
 | .ok j => .ok (k + j)
 | .bad a e => .bad (k + a) e
def LR.on (k : Nat) : LR → LR
 | .ok j => .ok (k + j)
 | .bad a e => .bad (k + a) e
 | .out => .out
def LR.close (k e : Nat) : LR → SR
 | .ok j => .ok (k + j)
 | .bad a e' => .bad (k + a) e'
 | .out => .bad 0 e
def EY (l t : List UInt8) : Bool := decide (l.take t.length = t)
theorem U3 (b : UInt8) (l : List UInt8) (c : UInt8) : EY (b :: l) [c] = decide (b = c) := by simp [EY]
theorem U7 {t : List UInt8} (h : t ≠ []) : EY [] t = false := by
 unfold EY
 rw [decide_eq_false]
 intro e
 rw [List.take_nil] at e
 exact h e.symm
theorem Ig {l t : List UInt8} (h : EY l t = true) : t.length ≤ l.length := by
 have := congrArg List.length (of_decide_eq_true h)
 rw [List.length_take] at this; omega
def Ca (l : List UInt8) : SR := if Lib.indexByte (l.drop 1) 39 < 0 then .bad 0 53 else .ok ((Lib.indexByte (l.drop 1) 39).toNat + 2)
def Bt (dlr : Bool → List UInt8 → SR) (q apo : Bool) (l : List UInt8) : SR :=
 if EY l [92] then .ok (min 2 l.length)
 else if EY l [39] && apo then Ca l
 else if EY l [96] then .bad 0 55
 else if EY l [36, 40] || EY l [36, 123] then dlr q l
 else .ok (min 1 l.length)
def Ij (dlr : Bool → List UInt8 → SR) : Nat → List UInt8 → LR
 | 0, _ => .out
 | f + 1, l => if l = [] then .out else if EY l [34] then .ok 1 else
  match Bt dlr true false l with
  | .bad a e => .bad a e
  | .ok k => (Ij dlr f (l.drop k)).on k
def AAD (dlr : Bool → List UInt8 → SR) (l : List UInt8) : SR := (Ij dlr l.length (l.drop 1)).close 1 53
def Ge (brace : Bool) (o : Nat) (b : UInt8) : Nat := if (!brace && decide (b = 41)) = true then o - 1 else if (!brace && decide (b = 40)) = true then o + 1 else o
def Fp (dbl : List UInt8 → SR) (dlr : Bool → List UInt8 → SR) (brace q : Bool) : Nat → Nat → List UInt8 → LR
 | 0, _, _ => .out
 | f + 1, o, l => if l = [] then .out else
  if nth l 0 0 = 34 then
   match dbl l with
   | .bad a e => .bad a e
   | .ok k => (Fp dbl dlr brace q f o (l.drop k)).on k
  else if (brace && decide (nth l 0 0 = 125) || (!brace && decide (nth l 0 0 = 41) && decide (o = 0))) = true then .ok 1
  else match Bt dlr q (!q) l with
   | .bad a e => .bad a e
   | .ok k => (Fp dbl dlr brace q f (Ge brace o (nth l 0 0)) (l.drop k)).on k
def KY (l : List UInt8) : Bool := decide (nth l 1 0 = 123)
def AAE (dbl : List UInt8 → SR) (dlr : Bool → List UInt8 → SR) (q : Bool) (l : List UInt8) : SR := (Fp dbl dlr (KY l) (q && KY l) l.length 0 (l.drop 2)).close 2 53
def lv : Nat → (List UInt8 → SR) × (Bool → List UInt8 → SR)
 | 0 => (fun _ => .bad 0 52, fun _ _ => .bad 0 52)
 | n + 1 => (AAD (lv n).2, AAE (lv n).1 (lv n).2)
def RC (l : List UInt8) : SR → Prop
 | .ok k => 1 ≤ k ∧ k ≤ l.length
 | .bad _ _ => True
theorem TB {l : List UInt8} (h : l ≠ []) : RC l (Ca l) := by
 unfold Ca
 split
 ·trivial
 ·rename_i h1
  have NL := Lib.indexByte_ge (l.drop 1) 39
  obtain ⟨i, hi⟩ : ∃ i : Nat, Lib.indexByte (l.drop 1) 39 = i := ⟨(Lib.indexByte (l.drop 1) 39).toNat, by omega⟩
  have := (Co hi).1
  rw [List.length_drop] at this
  have hp := List.length_pos_iff.2 h
  show 1 ≤ _ ∧ _ ≤ _
  rw [hi]
  omega
theorem GJ {dlr : Bool → List UInt8 → SR} {q apo : Bool} {l : List UInt8} (hd : ∀ q l, 2 ≤ l.length → RC l (dlr q l)) (h : l ≠ []) : RC l (Bt dlr q apo l) := by
 have hp := List.length_pos_iff.2 h
 unfold Bt
 split
 ·exact ⟨by omega, by omega⟩
 ·split
  ·exact TB h
  ·split
   ·trivial
   ·split
    ·rename_i h1
     refine hd _ _ ?_
     rw [Bool.or_eq_true] at h1
     rcases h1 with h1 | h1
     ·exact Ig h1
     ·exact Ig h1
    ·exact ⟨by omega, by omega⟩
def Y5 (l : List UInt8) : LR → Prop
 | .ok k => 1 ≤ k ∧ k ≤ l.length
 | _ => True
theorem QY {l : List UInt8} {k : Nat} {r : LR} (hk : k ≤ l.length) (h : Y5 (l.drop k) r) : Y5 l (r.on k) := by
 cases r with
 | ok j =>
  have h2 : 1 ≤ j ∧ j ≤ (l.drop k).length := h
  rw [List.length_drop] at h2
  exact ⟨by omega, by omega⟩
 | bad a e => trivial
 | out => trivial
theorem Po {l : List UInt8} {k e : Nat} {r : LR} (hk : k ≤ l.length) (h : Y5 (l.drop k) r) : RC l (r.close k e) := by
 cases r with
 | ok j =>
  have h2 : 1 ≤ j ∧ j ≤ (l.drop k).length := h
  rw [List.length_drop] at h2
  exact ⟨by omega, by omega⟩
 | bad a e => trivial
 | out => trivial
theorem Q3 {dlr : Bool → List UInt8 → SR} (hd : ∀ q l, 2 ≤ l.length → RC l (dlr q l)) : ∀ (f : Nat) (l : List UInt8), Y5 l (Ij dlr f l)
 | 0, _ => trivial
 | f + 1, l => by
  unfold Ij
  split
  ·trivial
  ·rename_i hl
   have hp := List.length_pos_iff.2 hl
   split
   ·exact ⟨Nat.le_refl _, by omega⟩
   ·have hf := GJ (q := true) (apo := false) hd hl
    cases hi : Bt dlr true false l with
    | bad a e => trivial
    | ok k =>
     rw [hi] at hf
     exact QY hf.2 (Q3 hd f _)
theorem NM {dbl : List UInt8 → SR} {dlr : Bool → List UInt8 → SR} {brace q : Bool} (hb : ∀ l, l ≠ [] → RC l (dbl l)) (hd : ∀ q l, 2 ≤ l.length → RC l (dlr q l)) : ∀ (f o : Nat) (l : List UInt8), Y5 l (Fp dbl dlr brace q f o l)
 | 0, _, _ => trivial
 | f + 1, o, l => by
  unfold Fp
  split
  ·trivial
  ·rename_i hl
   have hp := List.length_pos_iff.2 hl
   split
   ·have hf := hb l hl
    cases hi : dbl l with
    | bad a e => trivial
    | ok k =>
     rw [hi] at hf
     exact QY hf.2 (NM hb hd f _ _)
   ·split
    ·exact ⟨Nat.le_refl _, by omega⟩
    ·have hf := GJ (q := q) (apo := !q) hd hl
     cases hi : Bt dlr q (!q) l with
     | bad a e => trivial
     | ok k =>
      rw [hi] at hf
      exact QY hf.2 (NM hb hd f _ _)
theorem G7 : ∀ n, (∀ l, l ≠ [] → RC l ((lv n).1 l)) ∧ ∀ q l, 2 ≤ l.length → RC l ((lv n).2 q l)
 | 0 => ⟨fun _ _ => trivial, fun _ _ _ => trivial⟩
 | n + 1 => by
  obtain ⟨h1, h2⟩ := G7 n
  refine ⟨fun l hl => ?_, fun q l hl => ?_⟩
  ·exact Po (List.length_pos_iff.2 hl) (Q3 h2 _ _)
  ·exact Po hl (NM h1 h2 _ _ _)
theorem Re {dlr : Bool → List UInt8 → SR} (f : Nat) : Ij dlr f [] = .out := by cases f <;> simp [Ij]
theorem RM {dbl : List UInt8 → SR} {dlr : Bool → List UInt8 → SR} {brace q : Bool} (f o : Nat) : Fp dbl dlr brace q f o [] = .out := by cases f <;> simp [Fp]
theorem LR.on_on (a b : Nat) (r : LR) : (r.on b).on a = r.on (a + b) := by
 cases r <;> simp [LR.on, Nat.add_assoc]
theorem LR.on_zero (r : LR) : r.on 0 = r := by
 cases r <;> simp [LR.on]
end Go.Tri

namespace Go.Tri
open Go.RowKit
def Cv : List UInt8 := [32, 9, 10, 38, 59, 124, 60, 62, 40, 41]
def CA (l : List UInt8) : SR := if EY l [34] then (lv 24).1 l else Bt (lv 24).2 false true l
def D9 : Nat → List UInt8 → SR
 | 0, _ => .ok 0
 | f + 1, l => if l = [] then .ok 0 else if DX Cv (nth l 0 0) then .ok 0 else
  match CA l with
  | .bad a e => .bad a e
  | .ok k => (D9 f (l.drop k)).on k
def EN (l : List UInt8) : SR := D9 l.length l
theorem SR.on_on (a b : Nat) (r : SR) : (r.on b).on a = r.on (a + b) := by cases r <;> simp [SR.on, Nat.add_assoc]
theorem SR.on_zero (r : SR) : r.on 0 = r := by cases r <;> simp [SR.on]
theorem E2 {l : List UInt8} (h : l ≠ []) : RC l (CA l) := by
 unfold CA
 split
 ·exact (G7 24).1 l h
 ·exact GJ (G7 24).2 h
theorem Gr (f : Nat) : D9 f [] = .ok 0 := by cases f <;> simp [D9]
theorem Hs {f : Nat} {l : List UInt8} {r : SR} {j : Nat} (h : r = (D9 f l).on j) (hl : l ≠ []) (hf : l.length ≤ f) :
  (DX Cv (nth l 0 0) = true → r = .ok j) ∧ (DX Cv (nth l 0 0) = false → (∀ a e, CA l = .bad a e → r = .bad (j + a) e) ∧ ∀ k, CA l = .ok k → r = (D9 (f - 1) (l.drop k)).on (j + k)) := by
 have hp := List.length_pos_iff.2 hl
 obtain ⟨g, rfl⟩ : ∃ g, f = g + 1 := ⟨f - 1, by omega⟩
 refine ⟨fun h1 => ?_, fun h1 => ⟨fun a e h2 => ?_, fun k h2 => ?_⟩⟩
 ·rw [h, D9, if_neg hl, if_pos h1]; rfl
 ·rw [h, D9, if_neg hl, if_neg (by rw [h1]; simp), h2]; rfl
 ·rw [h, D9, if_neg hl, if_neg (by rw [h1]; simp), h2, Nat.add_sub_cancel]
  exact SR.on_on _ _ _
theorem PV : ∀ (f : Nat) (l : List UInt8) (k : Nat), D9 f l = .ok k → k ≤ l.length
 | 0, l, k, h => by cases h; omega
 | f + 1, l, k, h => by
  rw [D9] at h
  split at h
  ·cases h; omega
  ·rename_i hl
   split at h
   ·cases h; omega
   ·have hf := E2 hl
    cases hs : CA l with
    | bad a e => rw [hs] at h; cases h
    | ok j =>
     rw [hs] at h hf
     cases hr : D9 f (l.drop j) with
     | bad a e => simp only [hr] at h; cases h
     | ok m =>
      simp only [hr] at h
      have := PV f (l.drop j) m hr
      rw [List.length_drop] at this
      have h2 : 1 ≤ j ∧ j ≤ l.length := hf
      cases h; omega
theorem L8 {l : List UInt8} {k : Nat} (h : EN l = .ok k) : k ≤ l.length := PV _ _ _ h
def ABY : List UInt8 := [32, 38, 38, 32, 124, 124, 32, 59, 59, 32, 60, 60, 32, 60, 60, 45, 32, 62, 62, 32, 60, 38, 32, 62, 38, 32, 60, 62, 32, 62, 124, 32, 38, 32, 59, 32, 124, 32, 60, 32, 62, 32, 40, 32, 41, 32]
def Y4 (t : List UInt8) : Bool := Lib.contains ABY ([32] ++ t ++ [32]) && !DX t 32
def Mh (l : List UInt8) (n : Nat) : Bool := decide ((l.take n).length = n) && Y4 (l.take n)
def OX : Nat → List UInt8 → List UInt8
 | 0, _ => []
 | n + 1, l => if Mh l (n + 1) then l.take (n + 1) else OX n l
def Ng (l : List UInt8) : List UInt8 := OX 3 l
theorem LD : ∀ (n : Nat) (l : List UInt8), (OX n l).length ≤ l.length ∧ (OX n l).length ≤ n ∧ OX n l = l.take (OX n l).length
 | 0, l => ⟨by simp [OX], by simp [OX], by simp [OX]⟩
 | n + 1, l => by
  rw [OX]
  split
  ·rename_i h
   have h1 : (l.take (n + 1)).length = n + 1 := by
    unfold Mh at h
    rw [Bool.and_eq_true, decide_eq_true_eq] at h
    exact h.1
   refine ⟨?_, by omega, by rw [h1]⟩
   rw [List.length_take] at h1 ⊢; omega
  ·obtain ⟨h1, h2, h3⟩ := LD n l
   exact ⟨h1, by omega, h3⟩
structure CX where
 kind : Nat
 text : List UInt8
 pos : Nat
 doc : List UInt8
 raw : Bool
 deriving DecidableEq
def BV : CX := ⟨0, [], 0, [], false⟩
inductive TR where
 | stop (k : Nat)
 | tok (off k kind : Nat) (text : List UInt8)
 | bad (a e : Nat)
def TR.on (n : Nat) : TR → TR
 | .stop k => .stop (n + k)
 | .tok off k kind text => .tok (n + off) (n + k) kind text
 | .bad a e => .bad (n + a) e
theorem TR.on_on (a b : Nat) (r : TR) : (r.on b).on a = r.on (a + b) := by cases r <;> simp [TR.on, Nat.add_assoc]
theorem TR.on_zero (r : TR) : r.on 0 = r := by cases r <;> simp [TR.on]
def M6 : List UInt8 := [48, 49, 50, 51, 52, 53, 54, 55, 56, 57]
def Ez (l : List UInt8) (k : Nat) : Bool := decide (Lib.trimS (l.take k) M6 = []) && (EY (l.drop k) [60] || EY (l.drop k) [62])
def Hx (l : List UInt8) : TR := match EN l with
 | .bad a e => .bad a e
 | .ok k => if 4096 < k then .bad 0 51 else .tok 0 k (if Ez l k then 4 else 1) (l.take k)
def Bz (l : List UInt8) : Nat := if 0 ≤ Lib.indexByte l 10 then (Lib.indexByte l 10).toNat else l.length
def Ce (l : List UInt8) : Nat := if EY l [92, 10] then 2 else if (decide (nth l 0 0 = 32) || decide (nth l 0 0 = 9)) = true then 1 else if nth l 0 0 = 35 then Bz l else 0
def E3 (l : List UInt8) : TR := if nth l 0 0 = 10 then .tok 0 1 3 [10] else if Ng l ≠ [] then .tok 0 (Ng l).length 2 (Ng l) else Hx l
def Hp : Nat → List UInt8 → TR
 | 0, _ => .stop 0
 | f + 1, l => if l = [] then .stop 0 else if Ce l ≠ 0 then (Hp f (l.drop (Ce l))).on (Ce l) else E3 l
def I6 (l : List UInt8) : TR := Hp (l.length + 1) l
theorem Nf {l : List UInt8} (h : nth l 0 0 = 35) (hl : l ≠ []) : 1 ≤ Bz l ∧ Bz l ≤ l.length := by
 have hp := List.length_pos_iff.2 hl
 unfold Bz
 split
 ·rename_i h1
  obtain ⟨i, hi⟩ : ∃ i : Nat, Lib.indexByte l 10 = i := ⟨(Lib.indexByte l 10).toNat, by omega⟩
  obtain ⟨h2, h3, h4⟩ := Co hi
  rw [hi]
  refine ⟨?_, by omega⟩
  rcases Nat.eq_zero_or_pos i with h5 | h5
  ·subst h5
   rw [h3] at h; exact absurd h (by decide)
  ·omega
 ·omega
theorem L0 {l : List UInt8} (hl : l ≠ []) : Ce l ≤ l.length := by
 have hp := List.length_pos_iff.2 hl
 unfold Ce
 split
 ·rename_i h; exact Ig h
 ·split
  ·omega
  ·split
   ·rename_i h; exact (Nf h hl).2
   ·omega
theorem JS {f : Nat} {l : List UInt8} {r : TR} {j : Nat} (h : r = (Hp f l).on j) (hf : l.length < f) :
  (l = [] → r = .stop j) ∧ (l ≠ [] → (Ce l = 0 → r = (E3 l).on j) ∧ ∀ k, Ce l = k → k ≠ 0 → r = (Hp (f - 1) (l.drop k)).on (j + k)) := by
 obtain ⟨g, rfl⟩ : ∃ g, f = g + 1 := ⟨f - 1, by omega⟩
 refine ⟨fun h1 => ?_, fun h1 => ⟨fun h2 => ?_, fun k h2 h3 => ?_⟩⟩
 ·rw [h, Hp, if_pos h1]; rfl
 ·rw [h, Hp, if_neg h1, if_neg (by rw [h2]; simp)]
 ·subst h2
  rw [h, Hp, if_neg h1, if_pos h3, Nat.add_sub_cancel]
  exact TR.on_on _ _ _
end Go.Tri

namespace Go.Tri
open Go.RowKit
def DN : List UInt8 → List UInt8
 | [] => []
 | [c] => if c = 39 ∨ c = 34 ∨ c = 92 then [] else [c]
 | c :: d :: r => if c = 39 ∨ c = 34 then DN (d :: r) else if c = 92 then d :: DN r else c :: DN (d :: r)
theorem RU (c : UInt8) : DN [c] = if c = 39 ∨ c = 34 ∨ c = 92 then [] else [c] := by rw [DN]
theorem JZ : DN [] = [] := by rw [DN]
theorem AAK {s : List UInt8} {i : Nat} (h : i < s.length) (hc : nth s i 0 = 39 ∨ nth s i 0 = 34) : DN (s.drop i) = DN (s.drop (i + 1)) := by
 rw [Bi 0 h]
 cases hd : s.drop (i + 1) with
 | nil => rw [RU, if_pos (by rcases hc with h | h; exact Or.inl h; exact Or.inr (Or.inl h)), JZ]
 | cons d r => rw [DN, if_pos hc]
theorem Sc {s : List UInt8} {i : Nat} (h : i + 1 < s.length) (hc : nth s i 0 = 92) : DN (s.drop i) = nth s (i + 1) 0 :: DN (s.drop (i + 2)) := by
 rw [Bi 0 (show i < s.length by omega), Bi 0 h, DN, if_neg (by rw [hc]; decide), if_pos hc]
theorem SQ {s : List UInt8} {i : Nat} (h : i < s.length) (h2 : ¬ i + 1 < s.length) (hc : nth s i 0 = 92) : DN (s.drop i) = [] := by
 rw [Bi 0 h, List.drop_of_length_le (by omega), DN, if_pos (.inr (.inr hc))]
theorem X5 {s : List UInt8} {i : Nat} (h : i < s.length) (h1 : ¬ (nth s i 0 = 39 ∨ nth s i 0 = 34)) (h2 : ¬ nth s i 0 = 92) : DN (s.drop i) = nth s i 0 :: DN (s.drop (i + 1)) := by
 rw [Bi 0 h]
 cases hd : s.drop (i + 1) with
 | nil => rw [RU, if_neg (fun h => by rcases h with h | h | h; exact h1 (Or.inl h); exact h1 (Or.inr h); exact h2 h), JZ]
 | cons d r => rw [DN, if_neg h1, if_neg h2]
def DF : List UInt8 := [39, 34, 92]
def EU (strip : Bool) (l : List UInt8) : List UInt8 := if strip then Lib.trimLeftB (l.take (Bz l)) 9 else l.take (Bz l)
def I5 (strip : Bool) (d : List UInt8) : Nat → List UInt8 → Option (List UInt8 × Nat)
 | 0, _ => none
 | f + 1, l => if l = [] then none else if EU strip l = d then some ([], min (Bz l + 1) l.length) else if DX l 10 = false then none
  else (I5 strip d f (l.drop (Bz l + 1))).map fun x => (EU strip l ++ [10] ++ x.1, Bz l + 1 + x.2)
def LV (strip : Bool) (d l : List UInt8) : Option (List UInt8 × Nat) := I5 strip d l.length l
theorem RP (strip : Bool) (d : List UInt8) (f : Nat) : I5 strip d f [] = none := by cases f <;> simp [I5]
theorem O0 (l : List UInt8) : Bz l ≤ l.length := by
 unfold Bz
 split
 ·rename_i h1
  obtain ⟨i, hi⟩ : ∃ i : Nat, Lib.indexByte l 10 = i := ⟨(Lib.indexByte l 10).toNat, by omega⟩
  have := (Co hi).1
  rw [hi]; omega
 ·omega
theorem IG {l : List UInt8} : (DX l 10 = true → Bz l < l.length ∧ nth l (Bz l) 0 = 10) ∧ (DX l 10 = false → Bz l = l.length) := by
 rw [← Dn]
 unfold Bz
 constructor
 ·intro h
  have h1 := of_decide_eq_true h
  obtain ⟨i, hi⟩ : ∃ i : Nat, Lib.indexByte l 10 = i := ⟨(Lib.indexByte l 10).toNat, by omega⟩
  have := Co hi
  rw [if_pos h1, hi]
  exact ⟨this.1, this.2.1⟩
 ·intro h
  rw [if_neg (of_decide_eq_false h)]
theorem Rp (strip : Bool) (l : List UInt8) : (EU strip l).length ≤ Bz l := by
 unfold EU
 have h1 : (l.take (Bz l)).length ≤ Bz l := by rw [List.length_take]; omega
 split
 ·exact Nat.le_trans ((List.dropWhile_sublist _).length_le) h1
 ·exact h1
abbrev Hw := Option (List UInt8 × Nat)
def Hw.on (a : List UInt8) (k : Nat) (r : Hw) : Hw := r.map fun x => (a ++ x.1, k + x.2)
theorem Hw.on_zero (r : Hw) : Hw.on [] 0 r = r := by
 cases r <;> simp [Hw.on]
theorem S7 {strip : Bool} {d : List UInt8} {f : Nat} {l a : List UInt8} {r : Hw} {j : Nat} (h : r = Hw.on a j (I5 strip d f l)) (hl : l ≠ []) (hf : l.length ≤ f) :
  (EU strip l = d → r = some (a, j + min (Bz l + 1) l.length)) ∧ (EU strip l ≠ d → (DX l 10 = false → r = none) ∧
   (DX l 10 = true → r = Hw.on (a ++ (EU strip l ++ [10])) (j + (Bz l + 1)) (I5 strip d (f - 1) (l.drop (Bz l + 1))))) := by
 have hp := List.length_pos_iff.2 hl
 obtain ⟨g, rfl⟩ : ∃ g, f = g + 1 := ⟨f - 1, by omega⟩
 refine ⟨fun h1 => ?_, fun h1 => ⟨fun h2 => ?_, fun h2 => ?_⟩⟩
 ·rw [h, I5, if_neg hl, if_pos h1]; simp [Hw.on]
 ·rw [h, I5, if_neg hl, if_neg h1, if_pos h2]; rfl
 ·rw [h, I5, if_neg hl, if_neg h1, if_neg (by rw [h2]; simp), Nat.add_sub_cancel]
  unfold Hw.on
  cases I5 strip d g (l.drop (Bz l + 1)) with
  | none => rfl
  | some x => simp [Nat.add_assoc, List.append_assoc]
end Go.Tri

namespace Go.Tri
open Go.RowKit
def EO : SR → Prop
 | .ok _ => True
 | .bad _ e => e ≠ 0
def Kv : LR → Prop
 | .bad _ e => e ≠ 0
 | _ => True
theorem LK {r : LR} {k e : Nat} (h : Kv r) (he : e ≠ 0) : EO (r.close k e) := by
 cases r with
 | ok j => trivial
 | bad a e' => exact h
 | out => exact he
theorem KN {r : LR} {k : Nat} (h : Kv r) : Kv (r.on k) := by
 cases r with
 | ok j => trivial
 | bad a e' => exact h
 | out => trivial
theorem HZ (l : List UInt8) : EO (Ca l) := by
 unfold Ca
 split
 ·exact Nat.succ_ne_zero _
 ·trivial
theorem Hl {dlr : Bool → List UInt8 → SR} {q apo : Bool} {l : List UInt8} (hd : ∀ q l, EO (dlr q l)) : EO (Bt dlr q apo l) := by
 unfold Bt
 split
 ·trivial
 ·split
  ·exact HZ l
  ·split
   ·exact Nat.succ_ne_zero _
   ·split
    ·exact hd _ _
    ·trivial
theorem MV {dlr : Bool → List UInt8 → SR} (hd : ∀ q l, EO (dlr q l)) : ∀ (f : Nat) (l : List UInt8), Kv (Ij dlr f l)
 | 0, _ => trivial
 | f + 1, l => by
  unfold Ij
  split
  ·trivial
  ·split
   ·trivial
   ·have hf := Hl (q := true) (apo := false) (l := l) hd
    cases hi : Bt dlr true false l with
    | bad a e => rw [hi] at hf; exact hf
    | ok k => exact KN (MV hd f _)
theorem JL {dbl : List UInt8 → SR} {dlr : Bool → List UInt8 → SR} {brace q : Bool} (hb : ∀ l, EO (dbl l)) (hd : ∀ q l, EO (dlr q l)) : ∀ (f o : Nat) (l : List UInt8), Kv (Fp dbl dlr brace q f o l)
 | 0, _, _ => trivial
 | f + 1, o, l => by
  unfold Fp
  split
  ·trivial
  ·split
   ·have hf := hb l
    cases hi : dbl l with
    | bad a e => rw [hi] at hf; exact hf
    | ok k => exact KN (JL hb hd f _ _)
   ·split
    ·trivial
    ·have hf := Hl (q := q) (apo := !q) (l := l) hd
     cases hi : Bt dlr q (!q) l with
     | bad a e => rw [hi] at hf; exact hf
     | ok k => exact KN (JL hb hd f _ _)
theorem FQ : ∀ n, (∀ l, EO ((lv n).1 l)) ∧ ∀ q l, EO ((lv n).2 q l)
 | 0 => ⟨fun _ => Nat.succ_ne_zero _, fun _ _ => Nat.succ_ne_zero _⟩
 | n + 1 => by
  obtain ⟨h1, h2⟩ := FQ n
  exact ⟨fun l => LK (MV h2 _ _) (Nat.succ_ne_zero _), fun q l => LK (JL h1 h2 _ _ _) (Nat.succ_ne_zero _)⟩
theorem Mq (l : List UInt8) : EO (CA l) := by
 unfold CA
 split
 ·exact (FQ 24).1 l
 ·exact Hl (FQ 24).2
theorem Gj : ∀ (f : Nat) (l : List UInt8), EO (D9 f l)
 | 0, _ => trivial
 | f + 1, l => by
  unfold D9
  split
  ·trivial
  ·split
   ·trivial
   ·have hf := Mq l
    cases hs : CA l with
    | bad a e => rw [hs] at hf; exact hf
    | ok k =>
     have := Gj f (l.drop k)
     show EO ((D9 f (l.drop k)).on k)
     cases hr : D9 f (l.drop k) with
     | bad a e => rw [hr] at this; exact this
     | ok j => trivial
def Wg (l : List UInt8) : TR → Prop
 | .stop k => k ≤ l.length
 | .tok off k kind text => 1 ≤ k ∧ k ≤ l.length ∧ off < k ∧ text.length ≤ l.length
 | .bad _ e => e ≠ 0
theorem ABE (c : UInt8) (h : DX Cv c = true) : c = 32 ∨ c = 9 ∨ c = 10 ∨ Y4 [c] = true := by
 revert c; exact Ps (by decide +kernel)
theorem PZ {l : List UInt8} (hl : l ≠ []) (hb : Ce l = 0) : Wg l (E3 l) := by
 have hp := List.length_pos_iff.2 hl
 unfold E3
 split
 ·exact ⟨Nat.le_refl _, hp, by omega, hp⟩
 ·rename_i QZ
  split
  ·rename_i Lg
   obtain ⟨h1, h2, h3⟩ := LD 3 l
   have h0 := List.length_pos_iff.2 Lg
   exact ⟨h0, h1, h0, h1⟩
  ·rename_i Lg
   unfold Hx
   have hf := Gj l.length l
   cases hw : EN l with
   | bad a e => unfold EN at hw; rw [hw] at hf; exact hf
   | ok k =>
    have hk := L8 hw
    have h1 : 1 ≤ k := by
     rcases Nat.eq_zero_or_pos k with h | h
     ·exfalso
      subst h

      have hx : EN l = (D9 l.length l).on 0 := (SR.on_zero _).symm
      have Dh := Hs hx hl (Nat.le_refl _)
      cases hs : DX Cv (nth l 0 0) with
      | true =>
       have ALF : Ng l = [] := Classical.not_not.1 Lg
       have MW : ¬ (nth l 0 0 = 32) ∧ ¬ (nth l 0 0 = 9) := by
        constructor <;> (intro e; unfold Ce at hb; split at hb; cases hb; rw [if_pos (by rw [e]; rfl)] at hb; cases hb)
       rcases ABE _ hs with h | h | h | h
       ·exact MW.1 h
       ·exact MW.2 h
       ·exact QZ h
       ·have h1 : l.take 1 = [nth l 0 0] := by
         cases l with
         | nil => exact absurd rfl hl
         | cons c r => rfl
        have ho : Mh l 1 = true := by
         unfold Mh
         rw [h1, h]; rfl
        have EZ : Ng l ≠ [] := by
         unfold Ng OX
         split
         ·intro e
          have := congrArg List.length e
          rename_i h3
          unfold Mh at h3
          rw [Bool.and_eq_true, decide_eq_true_eq] at h3
          rw [h3.1] at this; cases this
         ·unfold OX
          split
          ·intro e
           have := congrArg List.length e
           rename_i h3
           unfold Mh at h3
           rw [Bool.and_eq_true, decide_eq_true_eq] at h3
           rw [h3.1] at this; cases this
          ·unfold OX
           rw [if_pos ho, h1]; simp
        exact EZ ALF
      | false =>
       have ET := Dh.2 hs
       have Dg := E2 hl
       cases hws : CA l with
       | bad a e =>
        have := ET.1 a e hws
        rw [hw] at this; cases this
       | ok j =>
        have h2 := ET.2 j hws
        rw [hws] at Dg
        have hj : 1 ≤ j := Dg.1
        rw [hw] at h2
        cases hr : D9 (l.length - 1) (l.drop j) with
        | bad a e => rw [hr] at h2; cases h2
        | ok m =>
         rw [hr] at h2
         have h3 : (SR.ok 0) = SR.ok (0 + j + m) := h2
         injection h3 with h3; omega
     ·exact h
    show Wg l (if 4096 < k then .bad 0 51 else _)
    split
    ·exact Nat.succ_ne_zero _
    ·exact ⟨h1, hk, by omega, by rw [List.length_take]; omega⟩
theorem ABk {l : List UInt8} {n : Nat} {r : TR} (hn : n ≤ l.length) (h : Wg (l.drop n) r) : Wg l (r.on n) := by
 cases r with
 | stop k =>
  have h2 : k ≤ (l.drop n).length := h
  rw [List.length_drop] at h2
  show n + k ≤ l.length
  omega
 | tok off k kind text =>
  have h2 : 1 ≤ k ∧ k ≤ (l.drop n).length ∧ off < k ∧ text.length ≤ (l.drop n).length := h
  rw [List.length_drop] at h2
  exact ⟨by omega, by omega, by omega, by omega⟩
 | bad a e => exact h
theorem Sk : ∀ (f : Nat) (l : List UInt8), Wg l (Hp f l)
 | 0, l => Nat.zero_le _
 | f + 1, l => by
  unfold Hp
  split
  ·exact Nat.zero_le _
  ·rename_i hl
   split
   ·exact ABk (L0 hl) (Sk f _)
   ·rename_i hb
    exact PZ hl (by simpa using hb)
theorem JC (l : List UInt8) : Wg l (I6 l) := Sk _ _
inductive I7 where
 | ok (toks : List CX) (k : Nat)
 | bad (a e : Nat)
def I7.app (l : List CX) (k : Nat) : I7 → I7
 | .ok ts j => .ok (l ++ ts) (k + j)
 | .bad a e => .bad a e
theorem I7.app_app (l m : List CX) (j k : Nat) (r : I7) : (r.app m k).app l j = r.app (l ++ m) (j + k) := by cases r <;> simp [I7.app, Nat.add_assoc]
theorem I7.app_nil (r : I7) : r.app [] 0 = r := by cases r <;> simp [I7.app]
def DE : Nat → Nat → List UInt8 → I7
 | 0, _, _ => .ok [] 0
 | f + 1, p, l => match I6 l with
  | .stop k => .ok [] k
  | .bad a e => .bad (p + a) e
  | .tok off k kind text => if kind = 3 then .ok [⟨kind, text, p + off, [], false⟩] k else (DE f (p + k) (l.drop k)).app [⟨kind, text, p + off, [], false⟩] k
theorem PC {f p : Nat} {l : List UInt8} {r : I7} {m : List CX} {j : Nat} (h : r = (DE f p l).app m j) (hf : l.length < f) :
  (∀ k, I6 l = .stop k → r = .ok m (j + k)) ∧ (∀ a e, I6 l = .bad a e → r = .bad (p + a) e) ∧
  (∀ off k kind text, I6 l = .tok off k kind text → (kind = 3 → r = .ok (m ++ [⟨kind, text, p + off, [], false⟩]) (j + k)) ∧ (¬ kind = 3 → r = (DE (f - 1) (p + k) (l.drop k)).app (m ++ [⟨kind, text, p + off, [], false⟩]) (j + k))) := by
 obtain ⟨g, rfl⟩ : ∃ g, f = g + 1 := ⟨f - 1, by omega⟩
 refine ⟨fun k h1 => ?_, fun a e h1 => ?_, fun off k kind text h1 => ⟨fun h2 => ?_, fun h2 => ?_⟩⟩
 ·rw [h, DE, h1]; simp [I7.app]
 ·rw [h, DE, h1]; rfl
 ·rw [h, DE, h1]
  show (if kind = 3 then _ else _ : I7).app m j = _
  rw [if_pos h2]; rfl
 ·rw [h, DE, h1]
  show (if kind = 3 then _ else _ : I7).app m j = _
  rw [if_neg h2, Nat.add_sub_cancel]
  exact I7.app_app _ _ _ _ _
def JQ (prev : Option CX) (t : CX) : Bool := match prev with
 | none => false
 | some q => decide (t.kind = 1) && decide (q.kind = 2) && EY q.text [60, 60]
def Nw (prev : Option CX) : Bool := match prev with
 | none => false
 | some q => decide (q.text = [60, 60, 45])
inductive U1 where
 | ok (toks : List CX) (j : Nat)
 | bad (a : Nat)
def U1.app (l : List CX) : U1 → U1
 | .ok ts j => .ok (l ++ ts) j
 | .bad a => .bad a
theorem U1.app_app (l m : List CX) (r : U1) : (r.app m).app l = r.app (l ++ m) := by cases r <;> simp [U1.app]
def FH (s : List UInt8) : Option CX → List CX → Nat → U1
 | _, [], j => .ok [] j
 | prev, t :: r, j => if JQ prev t then match LV (Nw prev) (DN t.text) (s.drop j) with
   | none => .bad t.pos
   | some x => (FH s (some t) r (j + x.2)).app [{ t with doc := x.1, raw := EG t.text DF }]
  else (FH s (some t) r j).app [t]
structure Yr where
 toks : List CX
 fin : Nat
 place : Nat
 err : Nat
def JB (s : List UInt8) (i : Nat) : Yr := match DE (s.length + 1) i (s.drop i) with
 | .bad a e => ⟨[], 0, a, e⟩
 | .ok ts k => match FH s none ts (i + k) with
  | .bad a => ⟨[], 0, a, 54⟩
  | .ok ds j => ⟨ds, j, 0, 0⟩
def B9 (s : List UInt8) (at' : Int) : Yr := if 65536 < s.length then ⟨[], 0, 0, 50⟩ else if at' < 0 ∨ (s.length : Int) < at' then ⟨[], 0, 0, 73⟩ else JB s at'.toNat
end Go.Tri

namespace Go.Tri
open Go.RowKit
def E8 (l : List CX) (n : Nat) : Option CX := if n = 0 then none else some (nth l (n - 1) BV)
structure GY (s : List UInt8) (l : List CX) (j0 n : Nat) (cur : List CX) (jj : Nat) : Prop where
 le : n ≤ l.length
 len : cur.length = l.length
 eq : FH s none l j0 = (FH s (E8 l n) (l.drop n) jj).app (cur.take n)
 rest : cur.drop n = l.drop n
 same : ∀ m, m < n → (nth cur m BV).kind = (nth l m BV).kind ∧ (nth cur m BV).text = (nth l m BV).text
theorem U1.app_nil (r : U1) : r.app [] = r := by cases r <;> simp [U1.app]
theorem GY.start (s : List UInt8) (l : List CX) (j0 : Nat) : GY s l j0 0 l j0 :=
 ⟨Nat.zero_le _, rfl, by rw [List.take_zero, U1.app_nil]; rfl, rfl, fun m h => absurd h (Nat.not_lt_zero m)⟩
section
variable {s : List UInt8} {l cur : List CX} {j0 n jj : Nat}
theorem GY.cur_at (h : GY s l j0 n cur jj) (hn : n < l.length) : nth cur n BV = nth l n BV := by
 have := h.rest
 rw [Bi BV (by rw [h.len]; exact hn), Bi BV hn] at this
 injection this
theorem MI (l : List CX) (n : Nat) : E8 l (n + 1) = some (nth l n BV) := by
 unfold E8; rw [if_neg (by omega)]; rfl
theorem GY.skip (h : GY s l j0 n cur jj) (hn : n < l.length) (hh : JQ (E8 l n) (nth l n BV) = false) : GY s l j0 (n + 1) cur jj := by
 refine ⟨hn, h.len, ?_, ?_, fun m hm => ?_⟩
 ·rw [h.eq, Bi BV hn, FH, if_neg (by rw [hh]; simp), U1.app_app, MI, D2 BV (by rw [h.len]; exact hn), h.cur_at hn]
 ·have := h.rest
  rw [Bi BV (by rw [h.len]; exact hn), Bi BV hn] at this
  injection this
 ·rcases Nat.lt_succ_iff_lt_or_eq.1 hm with h1 | rfl
  ·exact h.same m h1
  ·rw [h.cur_at hn]; exact ⟨rfl, rfl⟩
theorem GY.bad (h : GY s l j0 n cur jj) (hn : n < l.length) (hh : JQ (E8 l n) (nth l n BV) = true) (hd : LV (Nw (E8 l n)) (DN (nth l n BV).text) (s.drop jj) = none) : FH s none l j0 = .bad (nth l n BV).pos := by
 rw [h.eq, Bi BV hn, FH, if_pos hh, hd]; rfl
theorem KR {α : Type} {l : List α} {n : Nat} {a d : α} (h : n < l.length) : nth (l.set n a) n d = a := by
 unfold nth; rw [List.getD_eq_getElem?_getD, List.getElem?_set_self h]; rfl
theorem UU {α : Type} {l : List α} {n m : Nat} {a d : α} (h : n ≠ m) : nth (l.set n a) m d = nth l m d := by
 unfold nth; rw [List.getD_eq_getElem?_getD, List.getElem?_set_ne h]; rfl
theorem GY.doc (h : GY s l j0 n cur jj) (hn : n < l.length) (hh : JQ (E8 l n) (nth l n BV) = true) {x : List UInt8 × Nat} (hd : LV (Nw (E8 l n)) (DN (nth l n BV).text) (s.drop jj) = some x) :
  GY s l j0 (n + 1) (cur.set n { nth l n BV with doc := x.1, raw := EG (nth l n BV).text DF }) (jj + x.2) := by
 have hnc : n < cur.length := by rw [h.len]; exact hn
 refine ⟨hn, by rw [List.length_set]; exact h.len, ?_, ?_, fun m hm => ?_⟩
 ·rw [h.eq, Bi BV hn, FH, if_pos hh, hd]
  show ((FH s _ _ _).app _).app _ = _
  rw [U1.app_app, MI, D2 BV (by rw [List.length_set]; exact hnc), KR hnc, List.take_set_of_le (Nat.le_refl _)]
 ·rw [List.drop_set_of_lt (by omega)]
  have := h.rest
  rw [Bi BV hnc, Bi BV hn] at this
  injection this
 ·rcases Nat.lt_succ_iff_lt_or_eq.1 hm with h1 | rfl
  ·rw [UU (by omega)]; exact h.same m h1
  ·rw [KR hnc]; exact ⟨rfl, rfl⟩
theorem GY.done (h : GY s l j0 n cur jj) (hn : ¬ n < l.length) : FH s none l j0 = .ok cur jj := by
 rw [h.eq, List.drop_of_length_le (by omega), List.take_of_length_le (by rw [h.len]; omega)]
 simp [FH, U1.app]
theorem GY.here (h : GY s l j0 n cur jj) (hn : n < l.length) : JQ (E8 l n) (nth l n BV) = !(decide ((n : Int) = 0) || decide (((nth cur n BV).kind : Int) ≠ 1) || decide (((nth cur (n - 1) BV).kind : Int) ≠ 2) || !EY (nth cur (n - 1) BV).text [60, 60]) := by
 rw [h.cur_at hn]
 unfold E8
 rcases Nat.eq_zero_or_pos n with h0 | h0
 ·subst h0; simp [JQ]
 ·rw [if_neg (by omega), decide_eq_false (show ¬ ((n : Int) = 0) by omega), (h.same (n - 1) (by omega)).1, (h.same (n - 1) (by omega)).2]
  unfold JQ
  have e1 : ∀ k c : Nat, decide ((k : Int) ≠ (c : Int)) = !decide (k = c) := fun k c => by
   by_cases h : k = c
   ·subst h; simp
   ·rw [decide_eq_false h, decide_eq_true (by omega)]; rfl
  have e2 := e1 (nth l n BV).kind 1
  have e3 := e1 (nth l (n - 1) BV).kind 2
  rw [show decide (((nth l n BV).kind : Int) ≠ 1) = _ from e2, show decide (((nth l (n - 1) BV).kind : Int) ≠ 2) = _ from e3]
  show (decide ((nth l n BV).kind = 1) && decide ((nth l (n - 1) BV).kind = 2) && EY (nth l (n - 1) BV).text [60, 60]) = _
  cases decide ((nth l n BV).kind = 1) <;> cases decide ((nth l (n - 1) BV).kind = 2) <;> cases EY (nth l (n - 1) BV).text [60, 60] <;> rfl
theorem GY.strip (h : GY s l j0 n cur jj) (h0 : 0 < n) : Nw (E8 l n) = decide ((nth cur (n - 1) BV).text = [60, 60, 45]) := by
 unfold E8
 rw [if_neg (by omega), (h.same (n - 1) (by omega)).2]; rfl
end
def LnE (i : Nat) (r : I7) (l : List CX) (j a e : Nat) : Prop := match r with
 | .ok ts k => l = ts ∧ j = i + k ∧ a = 0 ∧ e = 0
 | .bad a' e' => e' ≠ 0 ∧ a = a' ∧ e = e'
theorem LnE.ok {i : Nat} {r : I7} {l : List CX} {j a e : Nat} (h : LnE i r l j a e) (he : e = 0) : ∃ k, r = .ok l k ∧ j = i + k ∧ a = 0 := by
 cases r with
 | ok ts k => exact ⟨k, by rw [h.1], h.2.1, h.2.2.1⟩
 | bad a' e' => exact absurd (h.2.2.symm.trans he) h.1
theorem LnE.bad {i : Nat} {r : I7} {l : List CX} {j a e : Nat} (h : LnE i r l j a e) (he : e ≠ 0) : r = .bad a e := by
 cases r with
 | ok ts k => exact absurd h.2.2.2 he
 | bad a' e' => rw [h.2.1, h.2.2]
end Go.Tri
