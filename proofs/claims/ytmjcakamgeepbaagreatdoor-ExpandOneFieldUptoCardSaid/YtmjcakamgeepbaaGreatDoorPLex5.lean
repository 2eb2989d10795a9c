/-
 What a line of a shell text is read as: quotes and substitutions, in plain words, over what is left of the text.
-/
import Derived.Test.YtmjcakamgeepbaaGreatDoorPOct
import Derived.Lib.SlTrimSet
import Derived.Test.YtmjcakamgeepbaaGreatDoorPAny
import Derived.Lib.TrimByte
namespace Go.Tri
open Go.RowKit
/-- what a scan over the text left comes to: so many bytes gone through, or a fault so far on -/
inductive SR where
 | ok (k : Nat)
 | bad (a e : Nat)
 deriving DecidableEq
/-- the same for the inside of quotes: or the text ran out -/
inductive LR where
 | ok (k : Nat)
 | bad (a e : Nat)
 | out
 deriving DecidableEq
def SR.on (k : Nat) : SR → SR
 | .ok j => .ok (k + j)
 | .bad a e => .bad (k + a) e
def LR.on (k : Nat) : LR → LR
 | .ok j => .ok (k + j)
 | .bad a e => .bad (k + a) e
 | .out => .out
/-- of the inside: from where it began -/
def LR.close (k e : Nat) : LR → SR
 | .ok j => .ok (k + j)
 | .bad a e' => .bad (k + a) e'
 | .out => .bad 0 e
def stB (l t : List UInt8) : Bool := decide (l.take t.length = t)
theorem stB_one (b : UInt8) (l : List UInt8) (c : UInt8) : stB (b :: l) [c] = decide (b = c) := by simp [stB]
theorem stB_len {l t : List UInt8} (h : stB l t = true) : t.length ≤ l.length := by
 have := congrArg List.length (of_decide_eq_true h)
 rw [List.length_take] at this; omega
def singleP (l : List UInt8) : SR := if Lib.indexByte (l.drop 1) 39 < 0 then .bad 0 53 else .ok ((Lib.indexByte (l.drop 1) 39).toNat + 2)
def insideP (dlr : Bool → List UInt8 → SR) (q apo : Bool) (l : List UInt8) : SR :=
 if stB l [92] then .ok (min 2 l.length)
 else if stB l [39] && apo then singleP l
 else if stB l [96] then .bad 0 55
 else if stB l [36, 40] || stB l [36, 123] then dlr q l
 else .ok (min 1 l.length)
def dblL (dlr : Bool → List UInt8 → SR) : Nat → List UInt8 → LR
 | 0, _ => .out
 | f + 1, l => if l = [] then .out else if stB l [34] then .ok 1 else
  match insideP dlr true false l with
  | .bad a e => .bad a e
  | .ok k => (dblL dlr f (l.drop k)).on k
def dblP (dlr : Bool → List UInt8 → SR) (l : List UInt8) : SR := (dblL dlr l.length (l.drop 1)).close 1 53
def opens (brace : Bool) (o : Nat) (b : UInt8) : Nat := if (!brace && decide (b = 41)) = true then o - 1 else if (!brace && decide (b = 40)) = true then o + 1 else o
def dlrL (dbl : List UInt8 → SR) (dlr : Bool → List UInt8 → SR) (brace q : Bool) : Nat → Nat → List UInt8 → LR
 | 0, _, _ => .out
 | f + 1, o, l => if l = [] then .out else
  if nth l 0 0 = 34 then
   match dbl l with
   | .bad a e => .bad a e
   | .ok k => (dlrL dbl dlr brace q f o (l.drop k)).on k
  else if (brace && decide (nth l 0 0 = 125) || (!brace && decide (nth l 0 0 = 41) && decide (o = 0))) = true then .ok 1
  else match insideP dlr q (!q) l with
   | .bad a e => .bad a e
   | .ok k => (dlrL dbl dlr brace q f (opens brace o (nth l 0 0)) (l.drop k)).on k
def braceB (l : List UInt8) : Bool := decide (nth l 1 0 = 123)
def dlrP (dbl : List UInt8 → SR) (dlr : Bool → List UInt8 → SR) (q : Bool) (l : List UInt8) : SR := (dlrL dbl dlr (braceB l) (q && braceB l) l.length 0 (l.drop 2)).close 2 53
/-- so many levels are left -/
def lv : Nat → (List UInt8 → SR) × (Bool → List UInt8 → SR)
 | 0 => (fun _ => .bad 0 52, fun _ _ => .bad 0 52)
 | n + 1 => (dblP (lv n).2, dlrP (lv n).1 (lv n).2)
/-- a scan that goes on goes on by at least one byte, and not beyond the end -/
def Fit (l : List UInt8) : SR → Prop
 | .ok k => 1 ≤ k ∧ k ≤ l.length
 | .bad _ _ => True
theorem singleP_fit {l : List UInt8} (h : l ≠ []) : Fit l (singleP l) := by
 unfold singleP
 split
 ·trivial
 ·rename_i h1
  have hge := Lib.indexByte_ge (l.drop 1) 39
  obtain ⟨i, hi⟩ : ∃ i : Nat, Lib.indexByte (l.drop 1) 39 = i := ⟨(Lib.indexByte (l.drop 1) 39).toNat, by omega⟩
  have := (indexByte_some hi).1
  rw [List.length_drop] at this
  have hp := List.length_pos_iff.2 h
  show 1 ≤ _ ∧ _ ≤ _
  rw [hi]
  omega
theorem insideP_fit {dlr : Bool → List UInt8 → SR} {q apo : Bool} {l : List UInt8} (hd : ∀ q l, 2 ≤ l.length → Fit l (dlr q l)) (h : l ≠ []) : Fit l (insideP dlr q apo l) := by
 have hp := List.length_pos_iff.2 h
 unfold insideP
 split
 ·exact ⟨by omega, by omega⟩
 ·split
  ·exact singleP_fit h
  ·split
   ·trivial
   ·split
    ·rename_i h1
     refine hd _ _ ?_
     rw [Bool.or_eq_true] at h1
     rcases h1 with h1 | h1
     ·exact stB_len h1
     ·exact stB_len h1
    ·exact ⟨by omega, by omega⟩
def FitL (l : List UInt8) : LR → Prop
 | .ok k => 1 ≤ k ∧ k ≤ l.length
 | _ => True
theorem fitL_on {l : List UInt8} {k : Nat} {r : LR} (hk : k ≤ l.length) (h : FitL (l.drop k) r) : FitL l (r.on k) := by
 cases r with
 | ok j =>
  have h2 : 1 ≤ j ∧ j ≤ (l.drop k).length := h
  rw [List.length_drop] at h2
  exact ⟨by omega, by omega⟩
 | bad a e => trivial
 | out => trivial
theorem fit_close {l : List UInt8} {k e : Nat} {r : LR} (hk : k ≤ l.length) (h : FitL (l.drop k) r) : Fit l (r.close k e) := by
 cases r with
 | ok j =>
  have h2 : 1 ≤ j ∧ j ≤ (l.drop k).length := h
  rw [List.length_drop] at h2
  exact ⟨by omega, by omega⟩
 | bad a e => trivial
 | out => trivial
theorem dblL_fit {dlr : Bool → List UInt8 → SR} (hd : ∀ q l, 2 ≤ l.length → Fit l (dlr q l)) : ∀ (f : Nat) (l : List UInt8), FitL l (dblL dlr f l)
 | 0, _ => trivial
 | f + 1, l => by
  unfold dblL
  split
  ·trivial
  ·rename_i hl
   have hp := List.length_pos_iff.2 hl
   split
   ·exact ⟨Nat.le_refl _, by omega⟩
   ·have hf := insideP_fit (q := true) (apo := false) hd hl
    cases hi : insideP dlr true false l with
    | bad a e => trivial
    | ok k =>
     rw [hi] at hf
     exact fitL_on hf.2 (dblL_fit hd f _)
theorem dlrL_fit {dbl : List UInt8 → SR} {dlr : Bool → List UInt8 → SR} {brace q : Bool} (hb : ∀ l, l ≠ [] → Fit l (dbl l)) (hd : ∀ q l, 2 ≤ l.length → Fit l (dlr q l)) : ∀ (f o : Nat) (l : List UInt8), FitL l (dlrL dbl dlr brace q f o l)
 | 0, _, _ => trivial
 | f + 1, o, l => by
  unfold dlrL
  split
  ·trivial
  ·rename_i hl
   have hp := List.length_pos_iff.2 hl
   split
   ·have hf := hb l hl
    cases hi : dbl l with
    | bad a e => trivial
    | ok k =>
     rw [hi] at hf
     exact fitL_on hf.2 (dlrL_fit hb hd f _ _)
   ·split
    ·exact ⟨Nat.le_refl _, by omega⟩
    ·have hf := insideP_fit (q := q) (apo := !q) hd hl
     cases hi : insideP dlr q (!q) l with
     | bad a e => trivial
     | ok k =>
      rw [hi] at hf
      exact fitL_on hf.2 (dlrL_fit hb hd f _ _)
theorem lv_fit : ∀ n, (∀ l, l ≠ [] → Fit l ((lv n).1 l)) ∧ ∀ q l, 2 ≤ l.length → Fit l ((lv n).2 q l)
 | 0 => ⟨fun _ _ => trivial, fun _ _ _ => trivial⟩
 | n + 1 => by
  obtain ⟨h1, h2⟩ := lv_fit n
  refine ⟨fun l hl => ?_, fun q l hl => ?_⟩
  ·exact fit_close (List.length_pos_iff.2 hl) (dblL_fit h2 _ _)
  ·exact fit_close hl (dlrL_fit h1 h2 _ _ _)
/-- steps, as the loops take them -/
theorem dblL_end {dlr : Bool → List UInt8 → SR} (f : Nat) : dblL dlr f [] = .out := by cases f <;> simp [dblL]
theorem dlrL_end {dbl : List UInt8 → SR} {dlr : Bool → List UInt8 → SR} {brace q : Bool} (f o : Nat) : dlrL dbl dlr brace q f o [] = .out := by cases f <;> simp [dlrL]
theorem LR.on_on (a b : Nat) (r : LR) : (r.on b).on a = r.on (a + b) := by
 cases r <;> simp [LR.on, Nat.add_assoc]
theorem LR.on_zero (r : LR) : r.on 0 = r := by
 cases r <;> simp [LR.on]
end Go.Tri

/-
 What a line of a shell text is read as: words, operators, tokens, in plain words.
-/
namespace Go.Tri
open Go.RowKit
def specials : List UInt8 := [32, 9, 10, 38, 59, 124, 60, 62, 40, 41]
def wordStep (l : List UInt8) : SR := if stB l [34] then (lv 24).1 l else insideP (lv 24).2 false true l
def wordL : Nat → List UInt8 → SR
 | 0, _ => .ok 0
 | f + 1, l => if l = [] then .ok 0 else if hasB specials (nth l 0 0) then .ok 0 else
  match wordStep l with
  | .bad a e => .bad a e
  | .ok k => (wordL f (l.drop k)).on k
def wordP (l : List UInt8) : SR := wordL l.length l
theorem SR.on_on (a b : Nat) (r : SR) : (r.on b).on a = r.on (a + b) := by cases r <;> simp [SR.on, Nat.add_assoc]
theorem SR.on_zero (r : SR) : r.on 0 = r := by cases r <;> simp [SR.on]
theorem wordStep_fit {l : List UInt8} (h : l ≠ []) : Fit l (wordStep l) := by
 unfold wordStep
 split
 ·exact (lv_fit 24).1 l h
 ·exact insideP_fit (lv_fit 24).2 h
theorem word_step {f : Nat} {l : List UInt8} {r : SR} {j : Nat} (h : r = (wordL f l).on j) (hl : l ≠ []) (hf : l.length ≤ f) :
  (hasB specials (nth l 0 0) = true → r = .ok j) ∧ (hasB specials (nth l 0 0) = false → (∀ a e, wordStep l = .bad a e → r = .bad (j + a) e) ∧ ∀ k, wordStep l = .ok k → r = (wordL (f - 1) (l.drop k)).on (j + k)) := by
 have hp := List.length_pos_iff.2 hl
 obtain ⟨g, rfl⟩ : ∃ g, f = g + 1 := ⟨f - 1, by omega⟩
 refine ⟨fun h1 => ?_, fun h1 => ⟨fun a e h2 => ?_, fun k h2 => ?_⟩⟩
 ·rw [h, wordL, if_neg hl, if_pos h1]; rfl
 ·rw [h, wordL, if_neg hl, if_neg (by rw [h1]; simp), h2]; rfl
 ·rw [h, wordL, if_neg hl, if_neg (by rw [h1]; simp), h2, Nat.add_sub_cancel]
  exact SR.on_on _ _ _
theorem wordL_fit : ∀ (f : Nat) (l : List UInt8) (k : Nat), wordL f l = .ok k → k ≤ l.length
 | 0, l, k, h => by cases h; omega
 | f + 1, l, k, h => by
  rw [wordL] at h
  split at h
  ·cases h; omega
  ·rename_i hl
   split at h
   ·cases h; omega
   ·have hf := wordStep_fit hl
    cases hs : wordStep l with
    | bad a e => rw [hs] at h; cases h
    | ok j =>
     rw [hs] at h hf
     cases hr : wordL f (l.drop j) with
     | bad a e => simp only [hr] at h; cases h
     | ok m =>
      simp only [hr] at h
      have := wordL_fit f (l.drop j) m hr
      rw [List.length_drop] at this
      have h2 : 1 ≤ j ∧ j ≤ l.length := hf
      cases h; omega
theorem wordP_fit {l : List UInt8} {k : Nat} (h : wordP l = .ok k) : k ≤ l.length := wordL_fit _ _ _ h
def opsS : List UInt8 := [32, 38, 38, 32, 124, 124, 32, 59, 59, 32, 60, 60, 32, 60, 60, 45, 32, 62, 62, 32, 60, 38, 32, 62, 38, 32, 60, 62, 32, 62, 124, 32, 38, 32, 59, 32, 124, 32, 60, 32, 62, 32, 40, 32, 41, 32]
def isOp (t : List UInt8) : Bool := Lib.contains opsS ([32] ++ t ++ [32]) && !hasB t 32
def opAt (l : List UInt8) (n : Nat) : Bool := decide ((l.take n).length = n) && isOp (l.take n)
def opN : Nat → List UInt8 → List UInt8
 | 0, _ => []
 | n + 1, l => if opAt l (n + 1) then l.take (n + 1) else opN n l
def opP (l : List UInt8) : List UInt8 := opN 3 l
theorem opN_len : ∀ (n : Nat) (l : List UInt8), (opN n l).length ≤ l.length ∧ (opN n l).length ≤ n ∧ opN n l = l.take (opN n l).length
 | 0, l => ⟨by simp [opN], by simp [opN], by simp [opN]⟩
 | n + 1, l => by
  rw [opN]
  split
  ·rename_i h
   have h1 : (l.take (n + 1)).length = n + 1 := by
    unfold opAt at h
    rw [Bool.and_eq_true, decide_eq_true_eq] at h
    exact h.1
   refine ⟨?_, by omega, by rw [h1]⟩
   rw [List.length_take] at h1 ⊢; omega
  ·obtain ⟨h1, h2, h3⟩ := opN_len n l
   exact ⟨h1, by omega, h3⟩
structure Tok where
 kind : Nat
 text : List UInt8
 pos : Nat
 doc : List UInt8
 raw : Bool
 deriving DecidableEq
def tok0 : Tok := ⟨0, [], 0, [], false⟩
/-- the next token of the text left: so far on it begins and ends -/
inductive TR where
 | stop (k : Nat)
 | tok (off k kind : Nat) (text : List UInt8)
 | bad (a e : Nat)
def TR.on (n : Nat) : TR → TR
 | .stop k => .stop (n + k)
 | .tok off k kind text => .tok (n + off) (n + k) kind text
 | .bad a e => .bad (n + a) e
theorem TR.on_on (a b : Nat) (r : TR) : (r.on b).on a = r.on (a + b) := by cases r <;> simp [TR.on, Nat.add_assoc]
theorem TR.on_zero (r : TR) : r.on 0 = r := by cases r <;> simp [TR.on]
def digitsS : List UInt8 := [48, 49, 50, 51, 52, 53, 54, 55, 56, 57]
def numberB (l : List UInt8) (k : Nat) : Bool := decide (Lib.trimS (l.take k) digitsS = []) && (stB (l.drop k) [60] || stB (l.drop k) [62])
def restP (l : List UInt8) : TR := match wordP l with
 | .bad a e => .bad a e
 | .ok k => if 4096 < k then .bad 0 51 else .tok 0 k (if numberB l k then 4 else 1) (l.take k)
def remark (l : List UInt8) : Nat := if 0 ≤ Lib.indexByte l 10 then (Lib.indexByte l 10).toNat else l.length
/-- so many bytes are passed over at the place, if any are -/
def blankN (l : List UInt8) : Nat := if stB l [92, 10] then 2 else if (decide (nth l 0 0 = 32) || decide (nth l 0 0 = 9)) = true then 1 else if nth l 0 0 = 35 then remark l else 0
def headP (l : List UInt8) : TR := if nth l 0 0 = 10 then .tok 0 1 3 [10] else if opP l ≠ [] then .tok 0 (opP l).length 2 (opP l) else restP l
def tokL : Nat → List UInt8 → TR
 | 0, _ => .stop 0
 | f + 1, l => if l = [] then .stop 0 else if blankN l ≠ 0 then (tokL f (l.drop (blankN l))).on (blankN l) else headP l
def tokP (l : List UInt8) : TR := tokL (l.length + 1) l
theorem remark_pos {l : List UInt8} (h : nth l 0 0 = 35) (hl : l ≠ []) : 1 ≤ remark l ∧ remark l ≤ l.length := by
 have hp := List.length_pos_iff.2 hl
 unfold remark
 split
 ·rename_i h1
  obtain ⟨i, hi⟩ : ∃ i : Nat, Lib.indexByte l 10 = i := ⟨(Lib.indexByte l 10).toNat, by omega⟩
  obtain ⟨h2, h3, h4⟩ := indexByte_some hi
  rw [hi]
  refine ⟨?_, by omega⟩
  rcases Nat.eq_zero_or_pos i with h5 | h5
  ·subst h5
   rw [h3] at h; exact absurd h (by decide)
  ·omega
 ·omega
theorem blankN_le {l : List UInt8} (hl : l ≠ []) : blankN l ≤ l.length := by
 have hp := List.length_pos_iff.2 hl
 unfold blankN
 split
 ·rename_i h; exact stB_len h
 ·split
  ·omega
  ·split
   ·rename_i h; exact (remark_pos h hl).2
   ·omega
end Go.Tri

/-
 What a line of a shell text is read as: here-documents, lines, in plain words.
-/
namespace Go.Tri
open Go.RowKit
def bareP : List UInt8 → List UInt8
 | [] => []
 | [c] => if c = 39 ∨ c = 34 ∨ c = 92 then [] else [c]
 | c :: d :: r => if c = 39 ∨ c = 34 then bareP (d :: r) else if c = 92 then d :: bareP r else c :: bareP (d :: r)
def quoteSet : List UInt8 := [39, 34, 92]
def docLine (strip : Bool) (l : List UInt8) : List UInt8 := if strip then Lib.trimLeftB (l.take (remark l)) 9 else l.take (remark l)
def docL (strip : Bool) (d : List UInt8) : Nat → List UInt8 → Option (List UInt8 × Nat)
 | 0, _ => none
 | f + 1, l => if l = [] then none else if docLine strip l = d then some ([], min (remark l + 1) l.length) else if hasB l 10 = false then none
  else (docL strip d f (l.drop (remark l + 1))).map fun x => (docLine strip l ++ [10] ++ x.1, remark l + 1 + x.2)
def docP (strip : Bool) (d l : List UInt8) : Option (List UInt8 × Nat) := docL strip d l.length l
theorem remark_has {l : List UInt8} : (hasB l 10 = true → remark l < l.length ∧ nth l (remark l) 0 = 10) ∧ (hasB l 10 = false → remark l = l.length) := by
 rw [← indexByte_has]
 unfold remark
 constructor
 ·intro h
  have h1 := of_decide_eq_true h
  obtain ⟨i, hi⟩ : ∃ i : Nat, Lib.indexByte l 10 = i := ⟨(Lib.indexByte l 10).toNat, by omega⟩
  have := indexByte_some hi
  rw [if_pos h1, hi]
  exact ⟨this.1, this.2.1⟩
 ·intro h
  rw [if_neg (of_decide_eq_false h)]
abbrev DocR := Option (List UInt8 × Nat)
def DocR.on (a : List UInt8) (k : Nat) (r : DocR) : DocR := r.map fun x => (a ++ x.1, k + x.2)
theorem DocR.on_zero (r : DocR) : DocR.on [] 0 r = r := by
 cases r <;> simp [DocR.on]
end Go.Tri

/-
 A line of a shell text, in plain words.
-/
namespace Go.Tri
open Go.RowKit
/-- no fault bears the number 0 -/
def Faulty : SR → Prop
 | .ok _ => True
 | .bad _ e => e ≠ 0
def FaultyL : LR → Prop
 | .bad _ e => e ≠ 0
 | _ => True
theorem faulty_close {r : LR} {k e : Nat} (h : FaultyL r) (he : e ≠ 0) : Faulty (r.close k e) := by
 cases r with
 | ok j => trivial
 | bad a e' => exact h
 | out => exact he
theorem faultyL_on {r : LR} {k : Nat} (h : FaultyL r) : FaultyL (r.on k) := by
 cases r with
 | ok j => trivial
 | bad a e' => exact h
 | out => trivial
theorem single_faulty (l : List UInt8) : Faulty (singleP l) := by
 unfold singleP
 split
 ·exact Nat.succ_ne_zero _
 ·trivial
theorem inside_faulty {dlr : Bool → List UInt8 → SR} {q apo : Bool} {l : List UInt8} (hd : ∀ q l, Faulty (dlr q l)) : Faulty (insideP dlr q apo l) := by
 unfold insideP
 split
 ·trivial
 ·split
  ·exact single_faulty l
  ·split
   ·exact Nat.succ_ne_zero _
   ·split
    ·exact hd _ _
    ·trivial
theorem dblL_faulty {dlr : Bool → List UInt8 → SR} (hd : ∀ q l, Faulty (dlr q l)) : ∀ (f : Nat) (l : List UInt8), FaultyL (dblL dlr f l)
 | 0, _ => trivial
 | f + 1, l => by
  unfold dblL
  split
  ·trivial
  ·split
   ·trivial
   ·have hf := inside_faulty (q := true) (apo := false) (l := l) hd
    cases hi : insideP dlr true false l with
    | bad a e => rw [hi] at hf; exact hf
    | ok k => exact faultyL_on (dblL_faulty hd f _)
theorem dlrL_faulty {dbl : List UInt8 → SR} {dlr : Bool → List UInt8 → SR} {brace q : Bool} (hb : ∀ l, Faulty (dbl l)) (hd : ∀ q l, Faulty (dlr q l)) : ∀ (f o : Nat) (l : List UInt8), FaultyL (dlrL dbl dlr brace q f o l)
 | 0, _, _ => trivial
 | f + 1, o, l => by
  unfold dlrL
  split
  ·trivial
  ·split
   ·have hf := hb l
    cases hi : dbl l with
    | bad a e => rw [hi] at hf; exact hf
    | ok k => exact faultyL_on (dlrL_faulty hb hd f _ _)
   ·split
    ·trivial
    ·have hf := inside_faulty (q := q) (apo := !q) (l := l) hd
     cases hi : insideP dlr q (!q) l with
     | bad a e => rw [hi] at hf; exact hf
     | ok k => exact faultyL_on (dlrL_faulty hb hd f _ _)
theorem lv_faulty : ∀ n, (∀ l, Faulty ((lv n).1 l)) ∧ ∀ q l, Faulty ((lv n).2 q l)
 | 0 => ⟨fun _ => Nat.succ_ne_zero _, fun _ _ => Nat.succ_ne_zero _⟩
 | n + 1 => by
  obtain ⟨h1, h2⟩ := lv_faulty n
  exact ⟨fun l => faulty_close (dblL_faulty h2 _ _) (Nat.succ_ne_zero _), fun q l => faulty_close (dlrL_faulty h1 h2 _ _ _) (Nat.succ_ne_zero _)⟩
theorem wordStep_faulty (l : List UInt8) : Faulty (wordStep l) := by
 unfold wordStep
 split
 ·exact (lv_faulty 24).1 l
 ·exact inside_faulty (lv_faulty 24).2
theorem wordL_faulty : ∀ (f : Nat) (l : List UInt8), Faulty (wordL f l)
 | 0, _ => trivial
 | f + 1, l => by
  unfold wordL
  split
  ·trivial
  ·split
   ·trivial
   ·have hf := wordStep_faulty l
    cases hs : wordStep l with
    | bad a e => rw [hs] at hf; exact hf
    | ok k =>
     have := wordL_faulty f (l.drop k)
     show Faulty ((wordL f (l.drop k)).on k)
     cases hr : wordL f (l.drop k) with
     | bad a e => rw [hr] at this; exact this
     | ok j => trivial
/-- what a token's scan tells: so far it goes on, and no fault bears 0 -/
def FitT (l : List UInt8) : TR → Prop
 | .stop k => k ≤ l.length
 | .tok off k kind text => 1 ≤ k ∧ k ≤ l.length ∧ off < k ∧ text.length ≤ l.length
 | .bad _ e => e ≠ 0
theorem ops_one (c : UInt8) (h : hasB specials c = true) : c = 32 ∨ c = 9 ∨ c = 10 ∨ isOp [c] = true := by
 revert c; exact u8_all (by decide +kernel)
theorem headP_fit {l : List UInt8} (hl : l ≠ []) (hb : blankN l = 0) : FitT l (headP l) := by
 have hp := List.length_pos_iff.2 hl
 unfold headP
 split
 ·exact ⟨Nat.le_refl _, hp, by omega, hp⟩
 ·rename_i h10
  split
  ·rename_i hop
   obtain ⟨h1, h2, h3⟩ := opN_len 3 l
   have h0 := List.length_pos_iff.2 hop
   exact ⟨h0, h1, h0, h1⟩
  ·rename_i hop
   unfold restP
   have hf := wordL_faulty l.length l
   cases hw : wordP l with
   | bad a e => unfold wordP at hw; rw [hw] at hf; exact hf
   | ok k =>
    have hk := wordP_fit hw
    have h1 : 1 ≤ k := by
     rcases Nat.eq_zero_or_pos k with h | h
     ·exfalso
      subst h
      -- then the first byte is special
      have hx : wordP l = (wordL l.length l).on 0 := (SR.on_zero _).symm
      have hst := word_step hx hl (Nat.le_refl _)
      cases hs : hasB specials (nth l 0 0) with
      | true =>
       have hop' : opP l = [] := Classical.not_not.1 hop
       have hnb : ¬ (nth l 0 0 = 32) ∧ ¬ (nth l 0 0 = 9) := by
        constructor <;> (intro e; unfold blankN at hb; split at hb; cases hb; rw [if_pos (by rw [e]; rfl)] at hb; cases hb)
       rcases ops_one _ hs with h | h | h | h
       ·exact hnb.1 h
       ·exact hnb.2 h
       ·exact h10 h
       ·have h1 : l.take 1 = [nth l 0 0] := by
         cases l with
         | nil => exact absurd rfl hl
         | cons c r => rfl
        have ho : opAt l 1 = true := by
         unfold opAt
         rw [h1, h]; rfl
        have hne : opP l ≠ [] := by
         unfold opP opN
         split
         ·intro e
          have := congrArg List.length e
          rename_i h3
          unfold opAt at h3
          rw [Bool.and_eq_true, decide_eq_true_eq] at h3
          rw [h3.1] at this; cases this
         ·unfold opN
          split
          ·intro e
           have := congrArg List.length e
           rename_i h3
           unfold opAt at h3
           rw [Bool.and_eq_true, decide_eq_true_eq] at h3
           rw [h3.1] at this; cases this
          ·unfold opN
           rw [if_pos ho, h1]; simp
        exact hne hop'
      | false =>
       have hno := hst.2 hs
       have hfit := wordStep_fit hl
       cases hws : wordStep l with
       | bad a e =>
        have := hno.1 a e hws
        rw [hw] at this; cases this
       | ok j =>
        have h2 := hno.2 j hws
        rw [hws] at hfit
        have hj : 1 ≤ j := hfit.1
        rw [hw] at h2
        cases hr : wordL (l.length - 1) (l.drop j) with
        | bad a e => rw [hr] at h2; cases h2
        | ok m =>
         rw [hr] at h2
         have h3 : (SR.ok 0) = SR.ok (0 + j + m) := h2
         injection h3 with h3; omega
     ·exact h
    show FitT l (if 4096 < k then .bad 0 51 else _)
    split
    ·exact Nat.succ_ne_zero _
    ·exact ⟨h1, hk, by omega, by rw [List.length_take]; omega⟩
theorem fitT_on {l : List UInt8} {n : Nat} {r : TR} (hn : n ≤ l.length) (h : FitT (l.drop n) r) : FitT l (r.on n) := by
 cases r with
 | stop k =>
  have h2 : k ≤ (l.drop n).length := h
  rw [List.length_drop] at h2
  show n + k ≤ l.length
  omega
 | tok off k kind text =>
  have h2 : 1 ≤ k ∧ k ≤ (l.drop n).length ∧ off < k ∧ text.length ≤ (l.drop n).length := h
  rw [List.length_drop] at h2
  exact ⟨by omega, by omega, by omega, by omega⟩
 | bad a e => exact h
theorem tokL_fit : ∀ (f : Nat) (l : List UInt8), FitT l (tokL f l)
 | 0, l => Nat.zero_le _
 | f + 1, l => by
  unfold tokL
  split
  ·exact Nat.zero_le _
  ·rename_i hl
   split
   ·exact fitT_on (blankN_le hl) (tokL_fit f _)
   ·rename_i hb
    exact headP_fit hl (by simpa using hb)
theorem tokP_fit (l : List UInt8) : FitT l (tokP l) := tokL_fit _ _
/-- a line's tokens; where it ends; or its fault, by its place in the whole text -/
inductive LnR where
 | ok (toks : List Tok) (k : Nat)
 | bad (a e : Nat)
def LnR.app (l : List Tok) (k : Nat) : LnR → LnR
 | .ok ts j => .ok (l ++ ts) (k + j)
 | .bad a e => .bad a e
theorem LnR.app_app (l m : List Tok) (j k : Nat) (r : LnR) : (r.app m k).app l j = r.app (l ++ m) (j + k) := by cases r <;> simp [LnR.app, Nat.add_assoc]
theorem LnR.app_nil (r : LnR) : r.app [] 0 = r := by cases r <;> simp [LnR.app]
def lineL : Nat → Nat → List UInt8 → LnR
 | 0, _, _ => .ok [] 0
 | f + 1, p, l => match tokP l with
  | .stop k => .ok [] k
  | .bad a e => .bad (p + a) e
  | .tok off k kind text => if kind = 3 then .ok [⟨kind, text, p + off, [], false⟩] k else (lineL f (p + k) (l.drop k)).app [⟨kind, text, p + off, [], false⟩] k
/-- is a token the delimiter of a document? -/
def hereB (prev : Option Tok) (t : Tok) : Bool := match prev with
 | none => false
 | some q => decide (t.kind = 1) && decide (q.kind = 2) && stB q.text [60, 60]
def stripB (prev : Option Tok) : Bool := match prev with
 | none => false
 | some q => decide (q.text = [60, 60, 45])
/-- the documents of a line: read behind it one by one -/
inductive DsR where
 | ok (toks : List Tok) (j : Nat)
 | bad (a : Nat)
def DsR.app (l : List Tok) : DsR → DsR
 | .ok ts j => .ok (l ++ ts) j
 | .bad a => .bad a
theorem DsR.app_app (l m : List Tok) (r : DsR) : (r.app m).app l = r.app (l ++ m) := by cases r <;> simp [DsR.app]
def docsL (s : List UInt8) : Option Tok → List Tok → Nat → DsR
 | _, [], j => .ok [] j
 | prev, t :: r, j => if hereB prev t then match docP (stripB prev) (bareP t.text) (s.drop j) with
   | none => .bad t.pos
   | some x => (docsL s (some t) r (j + x.2)).app [{ t with doc := x.1, raw := anyOf t.text quoteSet }]
  else (docsL s (some t) r j).app [t]
structure LineV where
 toks : List Tok
 fin : Nat
 place : Nat
 err : Nat
def lineAt (s : List UInt8) (i : Nat) : LineV := match lineL (s.length + 1) i (s.drop i) with
 | .bad a e => ⟨[], 0, a, e⟩
 | .ok ts k => match docsL s none ts (i + k) with
  | .bad a => ⟨[], 0, a, 54⟩
  | .ok ds j => ⟨ds, j, 0, 0⟩
def lineP (s : List UInt8) (at' : Int) : LineV := if 65536 < s.length then ⟨[], 0, 0, 50⟩ else if at' < 0 ∨ (s.length : Int) < at' then ⟨[], 0, 0, 73⟩ else lineAt s at'.toNat
end Go.Tri

/-
 The documents of a line, one by one.
-/
namespace Go.Tri
open Go.RowKit
def prevOf (l : List Tok) (n : Nat) : Option Tok := if n = 0 then none else some (nth l (n - 1) tok0)
structure DInv (s : List UInt8) (l : List Tok) (j0 n : Nat) (cur : List Tok) (jj : Nat) : Prop where
 le : n ≤ l.length
 len : cur.length = l.length
 eq : docsL s none l j0 = (docsL s (prevOf l n) (l.drop n) jj).app (cur.take n)
 rest : cur.drop n = l.drop n
 same : ∀ m, m < n → (nth cur m tok0).kind = (nth l m tok0).kind ∧ (nth cur m tok0).text = (nth l m tok0).text
theorem DsR.app_nil (r : DsR) : r.app [] = r := by cases r <;> simp [DsR.app]
theorem DInv.start (s : List UInt8) (l : List Tok) (j0 : Nat) : DInv s l j0 0 l j0 :=
 ⟨Nat.zero_le _, rfl, by rw [List.take_zero, DsR.app_nil]; rfl, rfl, fun m h => absurd h (Nat.not_lt_zero m)⟩
section
variable {s : List UInt8} {l cur : List Tok} {j0 n jj : Nat}
theorem DInv.cur_at (h : DInv s l j0 n cur jj) (hn : n < l.length) : nth cur n tok0 = nth l n tok0 := by
 have := h.rest
 rw [drop_nth tok0 (by rw [h.len]; exact hn), drop_nth tok0 hn] at this
 injection this
theorem prevOf_succ (l : List Tok) (n : Nat) : prevOf l (n + 1) = some (nth l n tok0) := by
 unfold prevOf; rw [if_neg (by omega)]; rfl
theorem DInv.skip (h : DInv s l j0 n cur jj) (hn : n < l.length) (hh : hereB (prevOf l n) (nth l n tok0) = false) : DInv s l j0 (n + 1) cur jj := by
 refine ⟨hn, h.len, ?_, ?_, fun m hm => ?_⟩
 ·rw [h.eq, drop_nth tok0 hn, docsL, if_neg (by rw [hh]; simp), DsR.app_app, prevOf_succ, take_nth tok0 (by rw [h.len]; exact hn), h.cur_at hn]
 ·have := h.rest
  rw [drop_nth tok0 (by rw [h.len]; exact hn), drop_nth tok0 hn] at this
  injection this
 ·rcases Nat.lt_succ_iff_lt_or_eq.1 hm with h1 | rfl
  ·exact h.same m h1
  ·rw [h.cur_at hn]; exact ⟨rfl, rfl⟩
theorem DInv.bad (h : DInv s l j0 n cur jj) (hn : n < l.length) (hh : hereB (prevOf l n) (nth l n tok0) = true) (hd : docP (stripB (prevOf l n)) (bareP (nth l n tok0).text) (s.drop jj) = none) : docsL s none l j0 = .bad (nth l n tok0).pos := by
 rw [h.eq, drop_nth tok0 hn, docsL, if_pos hh, hd]; rfl
theorem nth_set_eq {α : Type} {l : List α} {n : Nat} {a d : α} (h : n < l.length) : nth (l.set n a) n d = a := by
 unfold nth; rw [List.getD_eq_getElem?_getD, List.getElem?_set_self h]; rfl
theorem nth_set_ne {α : Type} {l : List α} {n m : Nat} {a d : α} (h : n ≠ m) : nth (l.set n a) m d = nth l m d := by
 unfold nth; rw [List.getD_eq_getElem?_getD, List.getElem?_set_ne h]; rfl
theorem DInv.doc (h : DInv s l j0 n cur jj) (hn : n < l.length) (hh : hereB (prevOf l n) (nth l n tok0) = true) {x : List UInt8 × Nat} (hd : docP (stripB (prevOf l n)) (bareP (nth l n tok0).text) (s.drop jj) = some x) :
  DInv s l j0 (n + 1) (cur.set n { nth l n tok0 with doc := x.1, raw := anyOf (nth l n tok0).text quoteSet }) (jj + x.2) := by
 have hnc : n < cur.length := by rw [h.len]; exact hn
 refine ⟨hn, by rw [List.length_set]; exact h.len, ?_, ?_, fun m hm => ?_⟩
 ·rw [h.eq, drop_nth tok0 hn, docsL, if_pos hh, hd]
  show ((docsL s _ _ _).app _).app _ = _
  rw [DsR.app_app, prevOf_succ, take_nth tok0 (by rw [List.length_set]; exact hnc), nth_set_eq hnc, List.take_set_of_le (Nat.le_refl _)]
 ·rw [List.drop_set_of_lt (by omega)]
  have := h.rest
  rw [drop_nth tok0 hnc, drop_nth tok0 hn] at this
  injection this
 ·rcases Nat.lt_succ_iff_lt_or_eq.1 hm with h1 | rfl
  ·rw [nth_set_ne (by omega)]; exact h.same m h1
  ·rw [nth_set_eq hnc]; exact ⟨rfl, rfl⟩
theorem DInv.done (h : DInv s l j0 n cur jj) (hn : ¬ n < l.length) : docsL s none l j0 = .ok cur jj := by
 rw [h.eq, List.drop_of_length_le (by omega), List.take_of_length_le (by rw [h.len]; omega)]
 simp [docsL, DsR.app]
theorem DInv.here (h : DInv s l j0 n cur jj) (hn : n < l.length) : hereB (prevOf l n) (nth l n tok0) = !(decide ((n : Int) = 0) || decide (((nth cur n tok0).kind : Int) ≠ 1) || decide (((nth cur (n - 1) tok0).kind : Int) ≠ 2) || !stB (nth cur (n - 1) tok0).text [60, 60]) := by
 rw [h.cur_at hn]
 unfold prevOf
 rcases Nat.eq_zero_or_pos n with h0 | h0
 ·subst h0; simp [hereB]
 ·rw [if_neg (by omega), decide_eq_false (show ¬ ((n : Int) = 0) by omega), (h.same (n - 1) (by omega)).1, (h.same (n - 1) (by omega)).2]
  unfold hereB
  have e1 : ∀ k c : Nat, decide ((k : Int) ≠ (c : Int)) = !decide (k = c) := fun k c => by
   by_cases h : k = c
   ·subst h; simp
   ·rw [decide_eq_false h, decide_eq_true (by omega)]; rfl
  have e2 := e1 (nth l n tok0).kind 1
  have e3 := e1 (nth l (n - 1) tok0).kind 2
  rw [show decide (((nth l n tok0).kind : Int) ≠ 1) = _ from e2, show decide (((nth l (n - 1) tok0).kind : Int) ≠ 2) = _ from e3]
  show (decide ((nth l n tok0).kind = 1) && decide ((nth l (n - 1) tok0).kind = 2) && stB (nth l (n - 1) tok0).text [60, 60]) = _
  cases decide ((nth l n tok0).kind = 1) <;> cases decide ((nth l (n - 1) tok0).kind = 2) <;> cases stB (nth l (n - 1) tok0).text [60, 60] <;> rfl
theorem DInv.strip (h : DInv s l j0 n cur jj) (h0 : 0 < n) : stripB (prevOf l n) = decide ((nth cur (n - 1) tok0).text = [60, 60, 45]) := by
 unfold prevOf
 rw [if_neg (by omega), (h.same (n - 1) (by omega)).2]; rfl
end
/-- what the scan of a line's tokens left behind -/
def LnE (i : Nat) (r : LnR) (l : List Tok) (j a e : Nat) : Prop := match r with
 | .ok ts k => l = ts ∧ j = i + k ∧ a = 0 ∧ e = 0
 | .bad a' e' => e' ≠ 0 ∧ a = a' ∧ e = e'
theorem LnE.ok {i : Nat} {r : LnR} {l : List Tok} {j a e : Nat} (h : LnE i r l j a e) (he : e = 0) : ∃ k, r = .ok l k ∧ j = i + k ∧ a = 0 := by
 cases r with
 | ok ts k => exact ⟨k, by rw [h.1], h.2.1, h.2.2.1⟩
 | bad a' e' => exact absurd (h.2.2.symm.trans he) h.1
theorem LnE.bad {i : Nat} {r : LnR} {l : List Tok} {j a e : Nat} (h : LnE i r l j a e) (he : e ≠ 0) : r = .bad a e := by
 cases r with
 | ok ts k => exact absurd h.2.2.2 he
 | bad a' e' => rw [h.2.1, h.2.2]
end Go.Tri
