/-
  Fields of texts with a hard separator behind each.
-/
import Derived.Test.YtigihljkacoopaaPNoth
namespace Go.Tri
open Go.RowKit
def backS (l : List (List UInt8)) (c : UInt8) : List UInt8 := l.flatMap (fun t => t ++ [c])
def plainF (t : List UInt8) : List Ch := t.map (fun b => (⟨b, false⟩ : Ch))
theorem chText_plainF (t : List UInt8) : chText (plainF t) = t := by simp [chText, plainF, Function.comp_def]
def bp : Pc := ⟨[], false, true⟩
theorem evB_bp (s : List UInt8) (ifs : List UInt8) (b : UInt8) : evB ⟨s, false, true⟩ ifs b = evB bp ifs b := rfl
theorem fold_text (c : UInt8) : ∀ (t : List UInt8) (f : FSt), (∀ b ∈ t, b ≠ c) → ((t.map (evB bp [c])).foldl stepF f).out = f.out ∧ ((t.map (evB bp [c])).foldl stepF f).cur = f.cur ++ plainF t ∧
    ((t.map (evB bp [c])).foldl stepF f).begun = (f.begun || !t.isEmpty) ∧ (f.soft = false → ((t.map (evB bp [c])).foldl stepF f).soft = false)
  | [], f, _ => by simp [plainF]
  | b :: t, f, h => by
    have hb : (bp.q || !bp.s || !hasB [c] b) = true := by
      have := h b (List.mem_cons_self)
      simp [bp, hasB, Ne.symm this]
    rw [List.map_cons, List.foldl_cons, evB_plain hb]
    obtain ⟨h1, h2, h3, h4⟩ := fold_text c t (stepF f (.plain ⟨b, bp.q⟩)) (fun x hx => h x (List.mem_cons_of_mem _ hx))
    rw [h1, h2, h3]
    refine ⟨rfl, by simp [stepF, plainF, bp], by simp [stepF], fun _ => h4 rfl⟩
theorem fold_back (c : UInt8) (hc : isSoftB c = false) : ∀ (l : List (List UInt8)) (out : List (List Ch)), (∀ t ∈ l, ∀ b ∈ t, b ≠ c) → ((backS l c).map (evB bp [c])).foldl stepF ⟨out, [], false, false⟩ = ⟨out ++ l.map plainF, [], false, false⟩
  | [], out, _ => by simp [backS]
  | t :: l, out, h => by
    show (((t ++ [c]) ++ backS l c).map (evB bp [c])).foldl stepF ⟨out, [], false, false⟩ = _
    rw [List.map_append, List.foldl_append, List.map_append, List.foldl_append]
    obtain ⟨h1, h2, h3, h4⟩ := fold_text c t ⟨out, [], false, false⟩ (h t (List.mem_cons_self))
    have hs := h4 rfl
    have hh : evB bp [c] c = .hard := evB_hard (by simp [bp, hasB]) hc
    have step : ([c].map (evB bp [c])).foldl stepF ((t.map (evB bp [c])).foldl stepF ⟨out, [], false, false⟩) = ⟨out ++ [plainF t], [], false, false⟩ := by
      show stepF _ (evB bp [c] c) = _
      rw [hh]
      generalize hg : (t.map (evB bp [c])).foldl stepF ⟨out, [], false, false⟩ = g at h1 h2 h3 hs ⊢
      obtain ⟨go, gc, gb, gs⟩ := g
      simp only [List.nil_append, Bool.false_or] at h1 h2 h3 hs
      subst h1 h2 hs
      cases t with
      | nil => simp at h3; subst h3; simp [stepF, plainF]
      | cons a t => simp at h3; subst h3; simp [stepF]
    rw [step, fold_back c hc l (out ++ [plainF t]) (fun x hx => h x (List.mem_cons_of_mem _ hx))]
    simp
theorem fields_back (l : List (List UInt8)) (c : UInt8) (hc : isSoftB c = false) (h : ∀ t ∈ l, ∀ b ∈ t, b ≠ c) : fieldsAll [⟨backS l c, false, true⟩] [c] = l.map plainF := by
  unfold fieldsAll
  have : evs' [⟨backS l c, false, true⟩] [c] = (backS l c).map (evB bp [c]) := by
    simp only [evs', List.flatMap_cons, List.flatMap_nil, List.append_nil, evP', Bool.false_eq_true, if_false, List.nil_append]
    rfl
  rw [this, fold_back c hc l [] h]
  rfl
theorem backS_take {l : List (List UInt8)} {k : Nat} (c : UInt8) (h : k < l.length) : backS (l.take (k + 1)) c = backS (l.take k) c ++ (nth l k [] ++ [c]) := by
  rw [take_nth [] h]; simp [backS]
def totS (l : List (List UInt8)) : Nat := (l.map List.length).sum
theorem totS_cons (t : List UInt8) (l : List (List UInt8)) : totS (t :: l) = t.length + totS l := rfl
theorem backS_len (l : List (List UInt8)) (c : UInt8) : (backS l c).length = totS l + l.length := by
  induction l with
  | nil => rfl
  | cons t l ih =>
    show ((t ++ [c]) ++ backS l c).length = _
    rw [List.length_append, ih, totS_cons]; simp; omega
theorem totS_mem {l : List (List UInt8)} {t : List UInt8} (h : t ∈ l) : t.length ≤ totS l := by
  induction l with
  | nil => cases h
  | cons q l ih =>
    rw [totS_cons]
    rcases List.mem_cons.1 h with rfl | h
    · omega
    · have := ih h; omega
theorem totS_app (a b : List (List UInt8)) : totS (a ++ b) = totS a + totS b := by simp [totS]
theorem totS_take_le (l : List (List UInt8)) (k : Nat) : totS (l.take k) ≤ totS l := by
  have := totS_app (l.take k) (l.drop k)
  rw [List.take_append_drop] at this
  omega
theorem ok_back (l : List (List UInt8)) (h1 : l.length ≤ 100) (h2 : totS l ≤ 2000) : okFields (l.map plainF) = true := by
  rw [okFields_iff]
  refine ⟨fun i hi => ?_, by rw [List.length_map]; omega⟩
  rw [List.length_map] at hi
  rw [nth_eq (by rw [List.length_map]; exact hi), List.getElem_map]
  have := totS_mem (List.getElem_mem hi)
  simp only [plainF, List.length_map]
  omega
def stC (t : List UInt8) : List Value := [str t]
theorem rd_st {w0 : World} {I : Look} {H : List HA} {v : Value} {l : List (List UInt8)} (h : Sl I 1 v (l.map stC)) {i : Nat} (hi : i < l.length) : Rd w0 I H (adr v).block ((adr v).off + i * 1) (str (nth l i [])) := h.rd (j := 0) (map_getD l stC [] hi) rfl
theorem nth_map {α β : Type} {l : List α} {i : Nat} (g : α → β) (d : α) (e : β) (h : i < l.length) : nth (l.map g) i e = g (nth l i d) := by
  rw [nth_eq (by rw [List.length_map]; exact h), nth_eq h, List.getElem_map]
end Go.Tri
