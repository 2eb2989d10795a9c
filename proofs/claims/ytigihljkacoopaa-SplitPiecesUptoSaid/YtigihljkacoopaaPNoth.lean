/-
  Fields without a separator.
-/
import Derived.Test.YtigihljkacoopaaSI
namespace Go.Tri
open Go.RowKit
def chars (l : List Pc) : List Ch := l.flatMap (fun p => p.t.map (fun b => (⟨b, p.q⟩ : Ch)))
def allT (l : List Pc) : List UInt8 := l.flatMap Pc.t
def qP (p : Pc) : Pc := ⟨p.t, true, p.s⟩
theorem chText_chars (l : List Pc) : chText (chars l) = allT l := by
  induction l with
  | nil => rfl
  | cons p l ih =>
    show chText (p.t.map _ ++ chars l) = p.t ++ allT l
    rw [← ih]
    simp [chText, Function.comp_def]
theorem allT_qP (l : List Pc) : allT (l.map qP) = allT l := by
  induction l with
  | nil => rfl
  | cons p l ih => show p.t ++ allT (l.map qP) = p.t ++ allT l; rw [ih]
theorem fold_plain1 (p : Pc) (ifs : List UInt8) (hp : ∀ b, (p.q || !p.s || !hasB ifs b) = true) : ∀ (t : List UInt8) (f : FSt), ((t.map (evB p ifs)).foldl stepF f).out = f.out ∧ ((t.map (evB p ifs)).foldl stepF f).cur = f.cur ++ t.map (fun b => (⟨b, p.q⟩ : Ch)) ∧
    ((t.map (evB p ifs)).foldl stepF f).begun = (f.begun || !t.isEmpty)
  | [], f => by simp
  | b :: t, f => by
    rw [List.map_cons, List.foldl_cons, evB_plain (hp b)]
    obtain ⟨h1, h2, h3⟩ := fold_plain1 p ifs hp t (stepF f (.plain ⟨b, p.q⟩))
    rw [h1, h2, h3]
    simp [stepF]
theorem fold_plain (ifs : List UInt8) : ∀ (l : List Pc), (∀ p ∈ l, ∀ b, (p.q || !p.s || !hasB ifs b) = true) → ∀ f : FSt, ((evs' l ifs).foldl stepF f).out = f.out ∧ ((evs' l ifs).foldl stepF f).cur = f.cur ++ chars l ∧
    ((evs' l ifs).foldl stepF f).begun = (f.begun || l.any Pc.q || !(chars l).isEmpty)
  | [], _, f => by simp [evs', chars]
  | p :: l, hp, f => by
    show ((evP' ifs p ++ evs' l ifs).foldl stepF f).out = _ ∧ ((evP' ifs p ++ evs' l ifs).foldl stepF f).cur = _ ++ (p.t.map (fun b => (⟨b, p.q⟩ : Ch)) ++ chars l) ∧ ((evP' ifs p ++ evs' l ifs).foldl stepF f).begun = _
    rw [List.foldl_append, evP', List.foldl_append]
    obtain ⟨a1, a2, a3⟩ := fold_plain1 p ifs (hp p (List.mem_cons_self)) p.t ((if p.q = true then [Ev.begin] else []).foldl stepF f)
    obtain ⟨h1, h2, h3⟩ := fold_plain ifs l (fun x hx => hp x (List.mem_cons_of_mem _ hx)) ((p.t.map (evB p ifs)).foldl stepF ((if p.q = true then [Ev.begin] else []).foldl stepF f))
    rw [h1, h2, h3, a1, a2, a3]
    have hch : chars (p :: l) = p.t.map (fun b => (⟨b, p.q⟩ : Ch)) ++ chars l := rfl
    rw [hch]
    cases hq : p.q
    · refine ⟨by simp, by simp, ?_⟩
      cases p.t <;> simp [hq]
    · refine ⟨by simp [stepF], by simp [stepF], ?_⟩
      simp [stepF, hq]
theorem fields_plain (l : List Pc) (ifs : List UInt8) (hp : ∀ p ∈ l, ∀ b, (p.q || !p.s || !hasB ifs b) = true) : fieldsAll l ifs = if (l.any Pc.q || !(chars l).isEmpty) = true then [chars l] else [] := by
  obtain ⟨h1, h2, h3⟩ := fold_plain ifs l hp ⟨[], [], false, false⟩
  unfold fieldsAll endF
  rw [h1, h2, h3]
  simp
theorem nothing_facts (l : List Pc) (ifs : List UInt8) (hlen : (allT l).length ≤ 4000) :
    okFields (fieldsAll l []) = true ∧ okFields (fieldsAll (l.map qP) ifs) = true ∧ (l = [] → fieldsAll l [] = [] ∧ fieldsAll (l.map qP) ifs = []) ∧ (l ≠ [] → ∃ c, fieldsAll (l.map qP) ifs = [c] ∧ chText c = allT l) ∧
    ((allT l = [] ∧ l.any Pc.q = false) → fieldsAll l [] = []) ∧ (¬ (allT l = [] ∧ l.any Pc.q = false) → ∃ c, fieldsAll l [] = [c] ∧ chText c = allT l) := by
  have e1 := fields_plain l [] (fun p _ b => by simp [hasB])
  have e2 := fields_plain (l.map qP) ifs (fun p hp b => by obtain ⟨q, _, rfl⟩ := List.mem_map.1 hp; rfl)
  have c1 : (chars l).length ≤ 4000 := by
    have := congrArg List.length (chText_chars l)
    simp only [chText, List.length_map] at this
    omega
  have c2 : (chars (l.map qP)).length ≤ 4000 := by
    have := congrArg List.length (chText_chars (l.map qP))
    rw [allT_qP] at this
    simp only [chText, List.length_map] at this
    omega
  have hem : (chars l).isEmpty = (allT l).isEmpty := by
    rw [← chText_chars]; simp [chText]
  refine ⟨?_, ?_, ?_, ?_, ?_, ?_⟩
  · rw [e1]; split
    · simp [okFields]; omega
    · rfl
  · rw [e2]; split
    · simp [okFields]; omega
    · rfl
  · rintro rfl; exact ⟨rfl, rfl⟩
  · intro hne
    refine ⟨chars (l.map qP), ?_, by rw [chText_chars, allT_qP]⟩
    rw [e2, if_pos]
    cases l with
    | nil => exact absurd rfl hne
    | cons p l => simp [qP]
  · rintro ⟨h1, h2⟩
    rw [e1, hem, h1, h2]; rfl
  · intro h
    refine ⟨chars l, ?_, chText_chars l⟩
    rw [e1, hem, if_pos]
    cases h1 : l.any Pc.q with
    | true => rfl
    | false =>
      cases h2 : allT l with
      | nil => exact absurd ⟨h2, h1⟩ h
      | cons a b => rfl
theorem allT_take {l : List Pc} {k : Nat} (h : k < l.length) : allT (l.take (k + 1)) = allT (l.take k) ++ (nth l k pc0).t := by
  rw [take_nth pc0 h]; simp [allT]
theorem any_take {l : List Pc} {k : Nat} (h : k < l.length) : (l.take (k + 1)).any Pc.q = ((l.take k).any Pc.q || (nth l k pc0).q) := by
  rw [take_nth pc0 h]; simp
theorem map_take {α β : Type} {l : List α} {k : Nat} (g : α → β) (d : α) (h : k < l.length) : (l.take (k + 1)).map g = (l.take k).map g ++ [g (nth l k d)] := by
  rw [take_nth d h]; simp
theorem rd_pc_q {w0 : World} {I : Look} {H : List HA} {v : Value} {l : List Pc} (h : Sl I 3 v (l.map pcC)) {i : Nat} (hi : i < l.length) : Rd w0 I H (adr v).block ((adr v).off + i * 3 + 1) (.bool (nth l i pc0).q) := h.rd (map_getD l pcC pc0 hi) rfl
theorem rd_pc_s {w0 : World} {I : Look} {H : List HA} {v : Value} {l : List Pc} (h : Sl I 3 v (l.map pcC)) {i : Nat} (hi : i < l.length) : Rd w0 I H (adr v).block ((adr v).off + i * 3 + 2) (.bool (nth l i pc0).s) := h.rd (map_getD l pcC pc0 hi) rfl
theorem allT_len (l : List Pc) : (allT l).length = tot l := by
  induction l with
  | nil => rfl
  | cons p l ih => show (p.t ++ allT l).length = _; rw [List.length_append, ih]; rfl
end Go.Tri
