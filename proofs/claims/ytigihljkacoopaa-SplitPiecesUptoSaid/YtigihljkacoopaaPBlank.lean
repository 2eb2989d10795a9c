/-
  Fields of an unquoted text: between blanks; between hard separators.
-/
import Derived.Test.YtigihljkacoopaaPBack
namespace Go.Tri
open Go.RowKit
def wstep (x : List (List UInt8) × List UInt8) (b : UInt8) : List (List UInt8) × List UInt8 := if b = 32 then (if x.2 = [] then (x.1, []) else (x.1 ++ [x.2], [])) else (x.1, x.2 ++ [b])
def pstep (c : UInt8) (x : List (List UInt8) × List UInt8) (b : UInt8) : List (List UInt8) × List UInt8 := if b = c then (x.1 ++ [x.2], []) else (x.1, x.2 ++ [b])
def lastW (x : List (List UInt8) × List UInt8) : List (List UInt8) := if x.2 = [] then x.1 else x.1 ++ [x.2]
def fsOf (x : List (List UInt8) × List UInt8) (sf : Bool) : FSt := ⟨x.1.map plainF, plainF x.2, !x.2.isEmpty, sf⟩
theorem plainF_snoc (t : List UInt8) (b : UInt8) : plainF (t ++ [b]) = plainF t ++ [⟨b, false⟩] := by simp [plainF]
theorem fold_words : ∀ (s : List UInt8) (x : List (List UInt8) × List UInt8) (sf : Bool), ∃ sf', ((s.map (evB bp [32])).foldl stepF (fsOf x sf)) = fsOf (s.foldl wstep x) sf'
  | [], x, sf => ⟨sf, rfl⟩
  | b :: s, x, sf => by
    rw [List.map_cons, List.foldl_cons, List.foldl_cons]
    by_cases hb : b = 32
    · subst hb
      have e : evB bp [32] 32 = .soft := rfl
      rw [e]
      obtain ⟨ws, w⟩ := x
      cases w with
      | nil => exact fold_words s (ws, []) sf
      | cons a w =>
        have h := fold_words s (ws ++ [a :: w], []) true
        have e2 : stepF (fsOf (ws, a :: w) sf) .soft = fsOf (ws ++ [a :: w], []) true := by simp [stepF, fsOf, plainF]
        rw [e2]
        exact h
    · have hp : (bp.q || !bp.s || !hasB [32] b) = true := by simp [bp, hasB, Ne.symm hb]
      rw [evB_plain hp]
      have e2 : stepF (fsOf x sf) (.plain ⟨b, bp.q⟩) = fsOf (x.1, x.2 ++ [b]) false := by simp [stepF, fsOf, plainF, bp]
      rw [e2, wstep, if_neg hb]
      exact fold_words s _ false
theorem fold_parts (c : UInt8) (hc : isSoftB c = false) : ∀ (s : List UInt8) (x : List (List UInt8) × List UInt8), ((s.map (evB bp [c])).foldl stepF (fsOf x false)) = fsOf (s.foldl (pstep c) x) false
  | [], x => rfl
  | b :: s, x => by
    rw [List.map_cons, List.foldl_cons, List.foldl_cons]
    by_cases hb : b = c
    · subst hb
      have e : evB bp [b] b = .hard := evB_hard (by simp [bp, hasB]) hc
      rw [e, pstep, if_pos rfl, ← fold_parts b hc s]
      congr 1
      obtain ⟨ws, w⟩ := x
      cases w with
      | nil => simp [stepF, fsOf, plainF]
      | cons a w => simp [stepF, fsOf, plainF]
    · have hp : (bp.q || !bp.s || !hasB [c] b) = true := by simp [bp, hasB, Ne.symm hb]
      rw [evB_plain hp, pstep, if_neg hb, ← fold_parts c hc s]
      congr 1
      simp [stepF, fsOf, plainF, bp]
theorem endF_fsOf (x : List (List UInt8) × List UInt8) (sf : Bool) : endF (fsOf x sf) = (lastW x).map plainF := by
  obtain ⟨ws, w⟩ := x
  cases w <;> simp [endF, fsOf, lastW]
theorem evs_one (s ifs : List UInt8) : evs' [⟨s, false, true⟩] ifs = s.map (evB bp ifs) := by
  simp only [evs', List.flatMap_cons, List.flatMap_nil, List.append_nil, evP', Bool.false_eq_true, if_false, List.nil_append]
  rfl
theorem fields_words (s : List UInt8) : fieldsAll [⟨s, false, true⟩] [32] = (lastW (s.foldl wstep ([], []))).map plainF := by
  obtain ⟨sf, h⟩ := fold_words s ([], []) false
  unfold fieldsAll
  rw [evs_one, show (⟨[], [], false, false⟩ : FSt) = fsOf ([], []) false from rfl, h, endF_fsOf]
theorem fields_parts (s : List UInt8) (c : UInt8) (hc : isSoftB c = false) : fieldsAll [⟨s, false, true⟩] [c] = (lastW (s.foldl (pstep c) ([], []))).map plainF := by
  unfold fieldsAll
  rw [evs_one, show (⟨[], [], false, false⟩ : FSt) = fsOf ([], []) false from rfl, fold_parts c hc, endF_fsOf]
theorem take_fold {α β : Type} (g : β → α → β) (x : β) {s : List α} {k : Nat} (d : α) (h : k < s.length) : (s.take (k + 1)).foldl g x = g ((s.take k).foldl g x) (nth s k d) := by
  rw [take_nth d h, List.foldl_append]; rfl
/-- what stands in the two lists is short -/
def Short (n : Nat) (x : List (List UInt8) × List UInt8) : Prop := totS x.1 + x.2.length ≤ n ∧ x.1.length ≤ n
theorem short_w {n : Nat} {x : List (List UInt8) × List UInt8} (b : UInt8) (h : Short n x) : Short (n + 1) (wstep x b) := by
  obtain ⟨ws, w⟩ := x
  obtain ⟨h1, h2⟩ := h
  simp only at h1 h2
  unfold wstep
  split
  · split
    · exact ⟨by simp only [List.length_nil]; omega, by simp only; omega⟩
    · refine ⟨?_, by simp only [List.length_append, List.length_cons, List.length_nil]; omega⟩
      simp only [totS_app, totS_cons, List.length_nil]
      show totS ws + (w.length + 0) + 0 ≤ _
      omega
  · exact ⟨by simp only [List.length_append, List.length_cons, List.length_nil]; omega, by simp only; omega⟩
theorem short_p {n : Nat} {x : List (List UInt8) × List UInt8} (c b : UInt8) (h : Short n x) : Short (n + 1) (pstep c x b) := by
  obtain ⟨ws, w⟩ := x
  obtain ⟨h1, h2⟩ := h
  simp only at h1 h2
  unfold pstep
  split
  · refine ⟨?_, by simp only [List.length_append, List.length_cons, List.length_nil]; omega⟩
    simp only [totS_app, totS_cons, List.length_nil]
    show totS ws + (w.length + 0) + 0 ≤ _
    omega
  · exact ⟨by simp only [List.length_append, List.length_cons, List.length_nil]; omega, by simp only; omega⟩
theorem ok_short (l : List (List UInt8)) (h1 : l.length ≤ 200) (h2 : totS l ≤ 2000) : okFields (l.map plainF) = true := by
  rw [okFields_iff]
  refine ⟨fun i hi => ?_, by rw [List.length_map]; omega⟩
  rw [List.length_map] at hi
  rw [nth_eq (by rw [List.length_map]; exact hi), List.getElem_map]
  have := totS_mem (List.getElem_mem hi)
  simp only [plainF, List.length_map]
  omega
theorem short_last {n : Nat} {x : List (List UInt8) × List UInt8} (h : Short n x) : (lastW x).length ≤ n + 1 ∧ totS (lastW x) ≤ n := by
  obtain ⟨ws, w⟩ := x
  obtain ⟨h1, h2⟩ := h
  simp only at h1 h2
  unfold lastW
  split
  · exact ⟨by simp only; omega, by simp only; omega⟩
  · refine ⟨by simp only [List.length_append, List.length_cons, List.length_nil]; omega, ?_⟩
    simp only [totS_app, totS_cons]
    show totS ws + (w.length + 0) ≤ _
    omega
end Go.Tri
