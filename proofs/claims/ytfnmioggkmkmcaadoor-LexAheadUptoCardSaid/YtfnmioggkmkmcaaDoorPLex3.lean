/-
  What a line of a shell text is read as: here-documents, lines, in plain words.
-/
import Derived.Test.YtfnmioggkmkmcaaDoorPLex2
import Derived.Test.YtfnmioggkmkmcaaDoorPAny
import Derived.Lib.TrimByte
namespace Go.Tri
open Go.RowKit
def bareP : List UInt8 → List UInt8
  | [] => []
  | [c] => if c = 39 ∨ c = 34 ∨ c = 92 then [] else [c]
  | c :: d :: r => if c = 39 ∨ c = 34 then bareP (d :: r) else if c = 92 then d :: bareP r else c :: bareP (d :: r)
theorem bare_one (c : UInt8) : bareP [c] = if c = 39 ∨ c = 34 ∨ c = 92 then [] else [c] := by rw [bareP]
theorem bare_nil : bareP [] = [] := by rw [bareP]
theorem bare_q {s : List UInt8} {i : Nat} (h : i < s.length) (hc : nth s i 0 = 39 ∨ nth s i 0 = 34) : bareP (s.drop i) = bareP (s.drop (i + 1)) := by
  rw [drop_nth 0 h]
  cases hd : s.drop (i + 1) with
  | nil => rw [bare_one, if_pos (by rcases hc with h | h; exact Or.inl h; exact Or.inr (Or.inl h)), bare_nil]
  | cons d r => rw [bareP, if_pos hc]
theorem bare_esc {s : List UInt8} {i : Nat} (h : i + 1 < s.length) (hc : nth s i 0 = 92) : bareP (s.drop i) = nth s (i + 1) 0 :: bareP (s.drop (i + 2)) := by
  rw [drop_nth 0 (show i < s.length by omega), drop_nth 0 h, bareP, if_neg (by rw [hc]; decide), if_pos hc]
theorem bare_end {s : List UInt8} {i : Nat} (h : i < s.length) (h2 : ¬ i + 1 < s.length) (hc : nth s i 0 = 92) : bareP (s.drop i) = [] := by
  rw [drop_nth 0 h, List.drop_of_length_le (by omega), bareP, if_pos (.inr (.inr hc))]
theorem bare_c {s : List UInt8} {i : Nat} (h : i < s.length) (h1 : ¬ (nth s i 0 = 39 ∨ nth s i 0 = 34)) (h2 : ¬ nth s i 0 = 92) : bareP (s.drop i) = nth s i 0 :: bareP (s.drop (i + 1)) := by
  rw [drop_nth 0 h]
  cases hd : s.drop (i + 1) with
  | nil => rw [bare_one, if_neg (fun h => by rcases h with h | h | h; exact h1 (Or.inl h); exact h1 (Or.inr h); exact h2 h), bare_nil]
  | cons d r => rw [bareP, if_neg h1, if_neg h2]
theorem bareP_len : ∀ (n : Nat) (s : List UInt8), s.length ≤ n → (bareP s).length ≤ s.length
  | _, [], _ => by simp [bareP]
  | _, [c], _ => by
    rw [bareP]
    split <;> simp
  | 0, _ :: _ :: _, h => by simp at h
  | n + 1, c :: d :: r, h => by
    have h1 := bareP_len n (d :: r) (by simp at h ⊢; omega)
    have h2 := bareP_len n r (by simp at h ⊢; omega)
    rw [bareP]
    split
    · simp at h1 ⊢; omega
    · split
      · simp at h2 ⊢; omega
      · simp at h1 ⊢; omega
def quoteSet : List UInt8 := [39, 34, 92]
def docLine (strip : Bool) (l : List UInt8) : List UInt8 := if strip then Lib.trimLeftB (l.take (remark l)) 9 else l.take (remark l)
def docL (strip : Bool) (d : List UInt8) : Nat → List UInt8 → Option (List UInt8 × Nat)
  | 0, _ => none
  | f + 1, l => if l = [] then none else if docLine strip l = d then some ([], min (remark l + 1) l.length) else if hasB l 10 = false then none
    else (docL strip d f (l.drop (remark l + 1))).map fun x => (docLine strip l ++ [10] ++ x.1, remark l + 1 + x.2)
def docP (strip : Bool) (d l : List UInt8) : Option (List UInt8 × Nat) := docL strip d l.length l
theorem docL_end (strip : Bool) (d : List UInt8) (f : Nat) : docL strip d f [] = none := by cases f <;> simp [docL]
theorem remark_le (l : List UInt8) : remark l ≤ l.length := by
  unfold remark
  split
  · rename_i h1
    obtain ⟨i, hi⟩ : ∃ i : Nat, Lib.indexByte l 10 = i := ⟨(Lib.indexByte l 10).toNat, by omega⟩
    have := (indexByte_some hi).1
    rw [hi]; omega
  · omega
theorem remark_has {l : List UInt8} : (hasB l 10 = true → remark l < l.length ∧ nth l (remark l) 0 = 10) ∧ (hasB l 10 = false → remark l = l.length) := by
  rw [← indexByte_has]
  unfold remark
  constructor
  · intro h
    have h1 := of_decide_eq_true h
    obtain ⟨i, hi⟩ : ∃ i : Nat, Lib.indexByte l 10 = i := ⟨(Lib.indexByte l 10).toNat, by omega⟩
    have := indexByte_some hi
    rw [if_pos h1, hi]
    exact ⟨this.1, this.2.1⟩
  · intro h
    rw [if_neg (of_decide_eq_false h)]
theorem docLine_len (strip : Bool) (l : List UInt8) : (docLine strip l).length ≤ remark l := by
  unfold docLine
  have h1 : (l.take (remark l)).length ≤ remark l := by rw [List.length_take]; omega
  split
  · exact Nat.le_trans ((List.dropWhile_sublist _).length_le) h1
  · exact h1
abbrev DocR := Option (List UInt8 × Nat)
def DocR.on (a : List UInt8) (k : Nat) (r : DocR) : DocR := r.map fun x => (a ++ x.1, k + x.2)
theorem DocR.on_zero (r : DocR) : DocR.on [] 0 r = r := by
  cases r <;> simp [DocR.on]
theorem doc_step {strip : Bool} {d : List UInt8} {f : Nat} {l a : List UInt8} {r : DocR} {j : Nat} (h : r = DocR.on a j (docL strip d f l)) (hl : l ≠ []) (hf : l.length ≤ f) :
    (docLine strip l = d → r = some (a, j + min (remark l + 1) l.length)) ∧ (docLine strip l ≠ d → (hasB l 10 = false → r = none) ∧
      (hasB l 10 = true → r = DocR.on (a ++ (docLine strip l ++ [10])) (j + (remark l + 1)) (docL strip d (f - 1) (l.drop (remark l + 1))))) := by
  have hp := List.length_pos_iff.2 hl
  obtain ⟨g, rfl⟩ : ∃ g, f = g + 1 := ⟨f - 1, by omega⟩
  refine ⟨fun h1 => ?_, fun h1 => ⟨fun h2 => ?_, fun h2 => ?_⟩⟩
  · rw [h, docL, if_neg hl, if_pos h1]; simp [DocR.on]
  · rw [h, docL, if_neg hl, if_neg h1, if_pos h2]; rfl
  · rw [h, docL, if_neg hl, if_neg h1, if_neg (by rw [h2]; simp), Nat.add_sub_cancel]
    unfold DocR.on
    cases docL strip d g (l.drop (remark l + 1)) with
    | none => rfl
    | some x => simp [Nat.add_assoc, List.append_assoc]
end Go.Tri
