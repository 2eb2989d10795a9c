/-
  What a line of a shell text is read as: quotes and substitutions, in plain words, over what is left of the text.
-/
import Derived.Test.YtfnmioggkmkmcaaDoorPOct
namespace Go.Tri
open Go.RowKit
/-- what a scan over the text left comes to: so many bytes gone through, or a fault so far on -/
inductive SR where
  | ok (k : Nat)
  | bad (a e : Nat)
  deriving DecidableEq
/-- the same for the inside of quotes: or the text ran out -/
inductive LR where
  | ok (k : Nat)
  | bad (a e : Nat)
  | out
  deriving DecidableEq
def SR.on (k : Nat) : SR → SR
  | .ok j => .ok (k + j)
  | .bad a e => .bad (k + a) e
def LR.on (k : Nat) : LR → LR
  | .ok j => .ok (k + j)
  | .bad a e => .bad (k + a) e
  | .out => .out
/-- of the inside: from where it began -/
def LR.close (k e : Nat) : LR → SR
  | .ok j => .ok (k + j)
  | .bad a e' => .bad (k + a) e'
  | .out => .bad 0 e
def stB (l t : List UInt8) : Bool := decide (l.take t.length = t)
theorem stB_one (b : UInt8) (l : List UInt8) (c : UInt8) : stB (b :: l) [c] = decide (b = c) := by simp [stB]
theorem stB_nil {t : List UInt8} (h : t ≠ []) : stB [] t = false := by
  unfold stB
  rw [decide_eq_false]
  intro e
  rw [List.take_nil] at e
  exact h e.symm
theorem stB_len {l t : List UInt8} (h : stB l t = true) : t.length ≤ l.length := by
  have := congrArg List.length (of_decide_eq_true h)
  rw [List.length_take] at this; omega
def singleP (l : List UInt8) : SR := if Lib.indexByte (l.drop 1) 39 < 0 then .bad 0 53 else .ok ((Lib.indexByte (l.drop 1) 39).toNat + 2)
def insideP (dlr : Bool → List UInt8 → SR) (q apo : Bool) (l : List UInt8) : SR :=
  if stB l [92] then .ok (min 2 l.length)
  else if stB l [39] && apo then singleP l
  else if stB l [96] then .bad 0 55
  else if stB l [36, 40] || stB l [36, 123] then dlr q l
  else .ok (min 1 l.length)
def dblL (dlr : Bool → List UInt8 → SR) : Nat → List UInt8 → LR
  | 0, _ => .out
  | f + 1, l => if l = [] then .out else if stB l [34] then .ok 1 else
    match insideP dlr true false l with
    | .bad a e => .bad a e
    | .ok k => (dblL dlr f (l.drop k)).on k
def dblP (dlr : Bool → List UInt8 → SR) (l : List UInt8) : SR := (dblL dlr l.length (l.drop 1)).close 1 53
def opens (brace : Bool) (o : Nat) (b : UInt8) : Nat := if (!brace && decide (b = 41)) = true then o - 1 else if (!brace && decide (b = 40)) = true then o + 1 else o
def dlrL (dbl : List UInt8 → SR) (dlr : Bool → List UInt8 → SR) (brace q : Bool) : Nat → Nat → List UInt8 → LR
  | 0, _, _ => .out
  | f + 1, o, l => if l = [] then .out else
    if nth l 0 0 = 34 then
      match dbl l with
      | .bad a e => .bad a e
      | .ok k => (dlrL dbl dlr brace q f o (l.drop k)).on k
    else if (brace && decide (nth l 0 0 = 125) || (!brace && decide (nth l 0 0 = 41) && decide (o = 0))) = true then .ok 1
    else match insideP dlr q (!q) l with
      | .bad a e => .bad a e
      | .ok k => (dlrL dbl dlr brace q f (opens brace o (nth l 0 0)) (l.drop k)).on k
def braceB (l : List UInt8) : Bool := decide (nth l 1 0 = 123)
def dlrP (dbl : List UInt8 → SR) (dlr : Bool → List UInt8 → SR) (q : Bool) (l : List UInt8) : SR := (dlrL dbl dlr (braceB l) (q && braceB l) l.length 0 (l.drop 2)).close 2 53
/-- so many levels are left -/
def lv : Nat → (List UInt8 → SR) × (Bool → List UInt8 → SR)
  | 0 => (fun _ => .bad 0 52, fun _ _ => .bad 0 52)
  | n + 1 => (dblP (lv n).2, dlrP (lv n).1 (lv n).2)
/-- a scan that goes on goes on by at least one byte, and not beyond the end -/
def Fit (l : List UInt8) : SR → Prop
  | .ok k => 1 ≤ k ∧ k ≤ l.length
  | .bad _ _ => True
theorem singleP_fit {l : List UInt8} (h : l ≠ []) : Fit l (singleP l) := by
  unfold singleP
  split
  · trivial
  · rename_i h1
    have hge := Lib.indexByte_ge (l.drop 1) 39
    obtain ⟨i, hi⟩ : ∃ i : Nat, Lib.indexByte (l.drop 1) 39 = i := ⟨(Lib.indexByte (l.drop 1) 39).toNat, by omega⟩
    have := (indexByte_some hi).1
    rw [List.length_drop] at this
    have hp := List.length_pos_iff.2 h
    show 1 ≤ _ ∧ _ ≤ _
    rw [hi]
    omega
theorem insideP_fit {dlr : Bool → List UInt8 → SR} {q apo : Bool} {l : List UInt8} (hd : ∀ q l, 2 ≤ l.length → Fit l (dlr q l)) (h : l ≠ []) : Fit l (insideP dlr q apo l) := by
  have hp := List.length_pos_iff.2 h
  unfold insideP
  split
  · exact ⟨by omega, by omega⟩
  · split
    · exact singleP_fit h
    · split
      · trivial
      · split
        · rename_i h1
          refine hd _ _ ?_
          rw [Bool.or_eq_true] at h1
          rcases h1 with h1 | h1
          · exact stB_len h1
          · exact stB_len h1
        · exact ⟨by omega, by omega⟩
def FitL (l : List UInt8) : LR → Prop
  | .ok k => 1 ≤ k ∧ k ≤ l.length
  | _ => True
theorem fitL_on {l : List UInt8} {k : Nat} {r : LR} (hk : k ≤ l.length) (h : FitL (l.drop k) r) : FitL l (r.on k) := by
  cases r with
  | ok j =>
    have h2 : 1 ≤ j ∧ j ≤ (l.drop k).length := h
    rw [List.length_drop] at h2
    exact ⟨by omega, by omega⟩
  | bad a e => trivial
  | out => trivial
theorem fit_close {l : List UInt8} {k e : Nat} {r : LR} (hk : k ≤ l.length) (h : FitL (l.drop k) r) : Fit l (r.close k e) := by
  cases r with
  | ok j =>
    have h2 : 1 ≤ j ∧ j ≤ (l.drop k).length := h
    rw [List.length_drop] at h2
    exact ⟨by omega, by omega⟩
  | bad a e => trivial
  | out => trivial
theorem dblL_fit {dlr : Bool → List UInt8 → SR} (hd : ∀ q l, 2 ≤ l.length → Fit l (dlr q l)) : ∀ (f : Nat) (l : List UInt8), FitL l (dblL dlr f l)
  | 0, _ => trivial
  | f + 1, l => by
    unfold dblL
    split
    · trivial
    · rename_i hl
      have hp := List.length_pos_iff.2 hl
      split
      · exact ⟨Nat.le_refl _, by omega⟩
      · have hf := insideP_fit (q := true) (apo := false) hd hl
        cases hi : insideP dlr true false l with
        | bad a e => trivial
        | ok k =>
          rw [hi] at hf
          exact fitL_on hf.2 (dblL_fit hd f _)
theorem dlrL_fit {dbl : List UInt8 → SR} {dlr : Bool → List UInt8 → SR} {brace q : Bool} (hb : ∀ l, l ≠ [] → Fit l (dbl l)) (hd : ∀ q l, 2 ≤ l.length → Fit l (dlr q l)) : ∀ (f o : Nat) (l : List UInt8), FitL l (dlrL dbl dlr brace q f o l)
  | 0, _, _ => trivial
  | f + 1, o, l => by
    unfold dlrL
    split
    · trivial
    · rename_i hl
      have hp := List.length_pos_iff.2 hl
      split
      · have hf := hb l hl
        cases hi : dbl l with
        | bad a e => trivial
        | ok k =>
          rw [hi] at hf
          exact fitL_on hf.2 (dlrL_fit hb hd f _ _)
      · split
        · exact ⟨Nat.le_refl _, by omega⟩
        · have hf := insideP_fit (q := q) (apo := !q) hd hl
          cases hi : insideP dlr q (!q) l with
          | bad a e => trivial
          | ok k =>
            rw [hi] at hf
            exact fitL_on hf.2 (dlrL_fit hb hd f _ _)
theorem lv_fit : ∀ n, (∀ l, l ≠ [] → Fit l ((lv n).1 l)) ∧ ∀ q l, 2 ≤ l.length → Fit l ((lv n).2 q l)
  | 0 => ⟨fun _ _ => trivial, fun _ _ _ => trivial⟩
  | n + 1 => by
    obtain ⟨h1, h2⟩ := lv_fit n
    refine ⟨fun l hl => ?_, fun q l hl => ?_⟩
    · exact fit_close (List.length_pos_iff.2 hl) (dblL_fit h2 _ _)
    · exact fit_close hl (dlrL_fit h1 h2 _ _ _)
/-- steps, as the loops take them -/
theorem dblL_end {dlr : Bool → List UInt8 → SR} (f : Nat) : dblL dlr f [] = .out := by cases f <;> simp [dblL]
theorem dlrL_end {dbl : List UInt8 → SR} {dlr : Bool → List UInt8 → SR} {brace q : Bool} (f o : Nat) : dlrL dbl dlr brace q f o [] = .out := by cases f <;> simp [dlrL]
theorem LR.on_on (a b : Nat) (r : LR) : (r.on b).on a = r.on (a + b) := by
  cases r <;> simp [LR.on, Nat.add_assoc]
theorem LR.on_zero (r : LR) : r.on 0 = r := by
  cases r <;> simp [LR.on]
end Go.Tri
