/-
  What layer 2's statements say, in plain words.
-/
import Derived.Test.YtlhjbemcapnmjaaPPat
namespace Go.Tri
open Go.RowKit

/-! patterns without brackets -/
def noBr (p : List Ch) : Prop := ∀ c ∈ p, c ≠ uq 91
theorem noBr.tail {c : Ch} {p : List Ch} (h : noBr (c :: p)) : noBr p := fun d hd => h d (List.mem_cons_of_mem _ hd)
theorem oneP_noBr {c : Ch} {p : List Ch} (h : noBr (c :: p)) (b : UInt8) : oneP (c :: p) b = (decide (c = uq 63) || decide (c.b = b), p) := by
  unfold oneP
  rw [startsP_one, startsP_one]
  have := h c List.mem_cons_self
  by_cases h1 : c = uq 63
  · simp [h1]
  · simp [h1, this, nth]
theorem Mt_cons {c : Ch} {p : List Ch} (h : noBr (c :: p)) (hc : c ≠ uq 42) (s : List UInt8) : Mt (c :: p) s = match s with
    | [] => false
    | b :: t => (decide (c = uq 63) || decide (c.b = b)) && Mt p t := by
  have hst : startsP (c :: p) [42] = false := by rw [startsP_one]; simpa using hc
  cases s with
  | nil => exact Mt_end (by simp) hst
  | cons b t =>
    rw [Mt_one (by simp) hst (by simp), show nth (b :: t) 0 0 = b from rfl, oneP_noBr h]
    rfl
theorem Mt_split : ∀ (p q : List Ch), noBr p → noBr q → ∀ s : List UInt8, Mt (p ++ q) s = true ↔ ∃ i, i ≤ s.length ∧ Mt p (s.take i) = true ∧ Mt q (s.drop i) = true
  | [], q, _, _, s => by
    constructor
    · intro h; exact ⟨0, Nat.zero_le _, by simp [Mt_nil], h⟩
    · rintro ⟨i, hi, h1, h2⟩
      rw [Mt_nil] at h1
      have h3 : s.take i = [] := by simpa using h1
      have h4 : i = 0 ∨ s = [] := by simpa using h3
      rcases h4 with rfl | rfl
      · simpa using h2
      · simpa using h2
  | c :: p, q, hp, hq, s => by
    have ih := Mt_split p q hp.tail hq
    have hpq : noBr (c :: (p ++ q)) := fun d hd => by
      rcases List.mem_cons.1 hd with rfl | hd
      · exact hp _ List.mem_cons_self
      · rcases List.mem_append.1 hd with hd | hd
        · exact hp _ (List.mem_cons_of_mem _ hd)
        · exact hq _ hd
    by_cases hc : c = uq 42
    · have hst : ∀ r, startsP (c :: r) [42] = true := fun r => by rw [startsP_one]; simpa using hc
      rw [List.cons_append, Mt_star_iff (hst _)]
      constructor
      · rintro ⟨i, hi, h⟩
        obtain ⟨k, hk, h1, h2⟩ := (ih (s.drop i)).1 h
        simp at hk
        refine ⟨i + k, by omega, (Mt_star_iff (hst _)).2 ⟨i, by simp; omega, ?_⟩, ?_⟩
        · rw [List.drop_take, show i + k - i = k by omega]; exact h1
        · rw [List.drop_drop] at h2; exact h2
      · rintro ⟨j, hj, h1, h2⟩
        obtain ⟨i, hi, h1⟩ := (Mt_star_iff (hst _)).1 h1
        simp at hi
        refine ⟨i, by omega, (ih (s.drop i)).2 ⟨j - i, by simp; omega, ?_, ?_⟩⟩
        · rw [List.drop_take] at h1; exact h1
        · rw [List.drop_drop, show i + (j - i) = j by omega]; exact h2
    · rw [List.cons_append, Mt_cons hpq hc]
      cases s with
      | nil =>
        constructor
        · intro h; cases h
        · rintro ⟨i, hi, h1, _⟩
          rw [List.take_nil, Mt_cons hp hc] at h1; cases h1
      | cons b t =>
        simp only [Bool.and_eq_true]
        constructor
        · rintro ⟨h1, h2⟩
          obtain ⟨k, hk, h3, h4⟩ := (ih t).1 h2
          refine ⟨k + 1, by simp; omega, ?_, by simpa using h4⟩
          rw [List.take_succ_cons, Mt_cons hp hc]
          simp only [Bool.and_eq_true]
          exact ⟨h1, h3⟩
        · rintro ⟨i, hi, h1, h2⟩
          cases i with
          | zero => rw [List.take_zero, Mt_cons hp hc] at h1; cases h1
          | succ i =>
            rw [List.take_succ_cons, Mt_cons hp hc] at h1
            simp only [Bool.and_eq_true] at h1
            exact ⟨h1.1, (ih t).2 ⟨i, by simp at hi; omega, h1.2, by simpa using h2⟩⟩
theorem Mt_starAll (s : List UInt8) : Mt [uq 42] s = true := (Mt_star_iff (by decide)).2 ⟨s.length, Nat.le_refl _, by simp [Mt_nil]⟩
theorem range_any (f : Nat → Bool) (k : Nat) : (List.range (k + 1)).any f = ((List.range k).any f || f k) := by
  rw [List.range_succ, List.any_append]; simp
theorem any_iff {f : Nat → Bool} {k : Nat} : (List.range k).any f = true ↔ ∃ i, i < k ∧ f i = true := by
  simp [List.any_eq_true]
/-- the law of two patterns, as the loop tells it -/
def splitAny (p q : List Ch) (s : List UInt8) (k : Nat) : Bool := (List.range k).any fun i => Mt p (s.take i) && Mt q (s.drop i)
theorem split_law {p q : List Ch} (hp : noBr p) (hq : noBr q) (s : List UInt8) : Mt (p ++ q) s = splitAny p q s (s.length + 1) := by
  rw [Bool.eq_iff_iff, Mt_split p q hp hq, splitAny, any_iff]
  constructor
  · rintro ⟨i, h1, h2, h3⟩; exact ⟨i, by omega, by simp [h2, h3]⟩
  · rintro ⟨i, h1, h2⟩; rw [Bool.and_eq_true] at h2; exact ⟨i, by omega, h2.1, h2.2⟩
/-- the law of stars -/
def starIn (p : List Ch) (s : List UInt8) (i j : Nat) : Bool := (List.range j).any fun b => decide (i ≤ b) && Mt p ((s.drop i).take (b - i))
def starAny (p : List Ch) (s : List UInt8) (k : Nat) : Bool := (List.range k).any fun i => starIn p s i (s.length + 1)
theorem starIn_zero (p : List Ch) (s : List UInt8) (i : Nat) : starIn p s i i = false := by
  cases h : starIn p s i i with
  | false => rfl
  | true =>
    obtain ⟨j, h1, h2⟩ := any_iff.1 h
    simp at h2; omega
theorem star_law {p : List Ch} (hp : noBr p) (s : List UInt8) : Mt (uq 42 :: (p ++ [uq 42])) s = starAny p s (s.length + 1) := by
  have h1 : noBr [uq 42] := fun c hc => by rw [List.mem_singleton] at hc; subst hc; decide
  rw [Bool.eq_iff_iff, Mt_star_iff (by rw [startsP_one]; decide), starAny, any_iff]
  constructor
  · rintro ⟨i, hi, h⟩
    obtain ⟨k, hk, h2, _⟩ := (Mt_split p [uq 42] hp h1 (s.drop i)).1 h
    simp at hk
    refine ⟨i, by omega, any_iff.2 ⟨i + k, by omega, ?_⟩⟩
    simp only [Bool.and_eq_true, decide_eq_true_eq]
    exact ⟨by omega, by rw [show i + k - i = k by omega]; exact h2⟩
  · rintro ⟨i, hi, h⟩
    obtain ⟨j, hj, h2⟩ := any_iff.1 h
    simp only [Bool.and_eq_true, decide_eq_true_eq] at h2
    exact ⟨i, by omega, (Mt_split p [uq 42] hp h1 (s.drop i)).2 ⟨j - i, by simp; omega, h2.2, Mt_starAll _⟩⟩

/-! texts as patterns -/
def plainP (s : List UInt8) : List Ch := s.map fun b => ⟨b, true⟩
theorem plainP_noBr (s : List UInt8) : noBr (plainP s) := fun c hc h => by
  obtain ⟨b, _, rfl⟩ := List.mem_map.1 hc
  simp [uq] at h
theorem Mt_plain : ∀ (s t : List UInt8), Mt (plainP s) t = decide (s = t)
  | [], t => by
    rw [show plainP [] = [] from rfl, Mt_nil]
    cases t <;> simp
  | b :: s, t => by
    have hn := plainP_noBr (b :: s)
    rw [show plainP (b :: s) = ⟨b, true⟩ :: plainP s from rfl] at hn ⊢
    rw [Mt_cons hn (by simp [uq])]
    cases t with
    | nil => simp
    | cons c t =>
      simp only [Mt_plain s t, uq, Ch.mk.injEq, Bool.true_eq_false, and_false, decide_false, Bool.false_or, List.cons.injEq]
      by_cases h1 : b = c <;> by_cases h2 : s = t <;> simp [h1, h2]
def wildC (c : Ch) : Bool := !c.q && hasB [42, 63, 91] c.b
def wildP (p : List Ch) : Bool := p.any wildC
theorem wild_plain (s : List UInt8) : wildP (plainP s) = false := by
  unfold wildP plainP
  rw [List.any_map]
  induction s with
  | nil => rfl
  | cons b s ih => rw [List.any_cons, ih]; rfl
def ofP : List UInt8 → List Ch
  | [] => []
  | [b] => [⟨b, decide (b = 92)⟩]
  | b :: c :: s => if b = 92 then ⟨c, true⟩ :: ofP s else uq b :: ofP (c :: s)
theorem ofP_len : ∀ (n : Nat) (s : List UInt8), s.length ≤ n → (ofP s).length ≤ s.length
  | _, [], _ => by simp [ofP]
  | _, [_], _ => by simp [ofP]
  | 0, _ :: _ :: _, h => by simp at h
  | n + 1, b :: c :: s, h => by
    rw [ofP]
    split
    · have := ofP_len n s (by simp at h; omega)
      simp; omega
    · have := ofP_len n (c :: s) (by simp at h ⊢; omega)
      simp at this ⊢; omega
theorem ofP_plain : ∀ (s : List UInt8), 92 ∉ s → ofP s = s.map uq
  | [], _ => rfl
  | [b], h => by
    have : ¬ b = 92 := fun e => h (by simp [e])
    simp [ofP, uq, this]
  | b :: c :: s, h => by
    have h1 : ¬ b = 92 := fun e => h (by simp [e])
    have h2 : 92 ∉ c :: s := fun e => h (List.mem_cons_of_mem _ e)
    rw [ofP, if_neg h1, ofP_plain (c :: s) h2]
    rfl

def wIdx : List Ch → Nat → Int
  | [], _ => -1
  | c :: p, i => if wildC c then (i : Int) else wIdx p (i + 1)
theorem wIdx_nn (p : List Ch) (i : Nat) : decide (0 ≤ wIdx p i) = wildP p := by
  induction p generalizing i with
  | nil => rfl
  | cons c p ih =>
    rw [wIdx, wildP, List.any_cons]
    cases h : wildC c with
    | true => rw [if_pos rfl]; simp
    | false => rw [if_neg (by simp), Bool.false_or]; exact ih _
theorem ofP_t {r : List UInt8} (h : (decide (nth r 0 0 = 92) && decide (1 < r.length)) = true) : ofP r = ⟨nth (r.drop 1) 0 0, true⟩ :: ofP ((r.drop 1).drop 1) := by
  match r with
  | [] => simp at h
  | [_] => simp at h
  | b :: c :: s =>
    have hb : b = 92 := by simp [nth] at h; exact h
    rw [ofP, if_pos hb]; rfl
theorem ofP_f {r : List UInt8} (hn : r ≠ []) (h : (decide (nth r 0 0 = 92) && decide (1 < r.length)) = false) : ofP r = ⟨nth r 0 0, decide (nth r 0 0 = 92)⟩ :: ofP (r.drop 1) := by
  match r with
  | [] => exact absurd rfl hn
  | [_] => rfl
  | b :: c :: s =>
    have hb : ¬ b = 92 := by simp [nth] at h; exact h
    rw [ofP, if_neg hb]
    show uq b :: _ = ⟨b, decide (b = 92)⟩ :: _
    rw [decide_eq_false hb]; rfl
theorem plainP_snoc {s : List UInt8} {i : Nat} (h : i < s.length) : plainP (s.take (i + 1)) = plainP (s.take i) ++ [⟨nth s i 0, true⟩] := by
  unfold plainP; rw [take_nth 0 h, List.map_append]; rfl

/-! a bracket turned round -/
theorem brG_flat (c : UInt8) : ∀ (n : Nat) (m : List UInt8) (first f : Bool), m.length ≤ n → 91 ∉ m → 93 ∉ m → (first = true → m ≠ []) → ∃ f', brG (m.map uq ++ [uq 93]) first c f = some (f', [])
  | n, [], first, f, _, _, _, hf => by
    have : first = false := by cases first <;> simp_all
    subst this
    refine ⟨f, ?_⟩
    rw [brG_eq (by simp)]
    rfl
  | 0, _ :: _, _, _, h, _, _, _ => by simp at h
  | n + 1, b :: m, first, f, h, h91, h93, _ => by
    have hb1 : ¬ b = 91 := fun e => h91 (by simp [e])
    have hb3 : ¬ b = 93 := fun e => h93 (by simp [e])
    have hcl : clsP ((b :: m).map uq ++ [uq 93]) = [] := by
      rcases cls_cases ((b :: m).map uq ++ [uq 93]) with ⟨h1, _⟩ | ⟨k, _, h1, _⟩
      · exact h1
      · exfalso
        simp only [clsText, List.map_cons, List.cons_append, startsP, Bool.and_eq_true, decide_eq_true_eq, uq, Ch.mk.injEq] at h1
        exact hb1 h1.1.1
    have hk : (memP ((b :: m).map uq ++ [uq 93])).2 = 1 ∨ ((memP ((b :: m).map uq ++ [uq 93])).2 = 3 ∧ 2 ≤ m.length) := by
      unfold memP
      rw [hcl]
      simp only [ne_eq, not_true_eq_false, if_false]
      split
      · rename_i h2
        refine .inr ⟨rfl, ?_⟩
        match m with
        | [] => simp at h2
        | [d] => simp [startsP] at h2
        | d :: e :: m => simp
      · exact .inl rfl
    rw [brG_eq (by simp)]
    have hns : startsP ((b :: m).map uq ++ [uq 93]) [93] = false := by
      simp only [List.map_cons, List.cons_append, startsP_one, uq, Ch.mk.injEq, and_true]
      simpa using hb3
    rw [hns, Bool.and_false, if_neg (by simp)]
    rcases hk with hk | ⟨hk, hm⟩
    · rw [hk]
      exact brG_flat c n m false _ (by simp at h; omega) (fun h => h91 (List.mem_cons_of_mem _ h)) (fun h => h93 (List.mem_cons_of_mem _ h)) (by simp)
    · rw [hk]
      have e : ((b :: m).map uq ++ [uq 93]).drop 3 = (m.drop 2).map uq ++ [uq 93] := by
        rw [List.map_cons, List.cons_append, List.drop_succ_cons, List.drop_append_of_le_length (by simpa using hm), List.map_drop]
      rw [e]
      exact brG_flat c n (m.drop 2) false _ (by simp at h ⊢; omega) (fun h => h91 (List.mem_cons_of_mem _ (List.mem_of_mem_drop h))) (fun h => h93 (List.mem_cons_of_mem _ (List.mem_of_mem_drop h))) (by simp)
theorem Mt_bracket {p r : List Ch} {c : UInt8} {f : Bool} (h : startsP p [91] = true) (hb : bracketP p c = some (f, r)) (s : List UInt8) : Mt p (c :: s) = (f && Mt r s) := by
  have hp : p ≠ [] := by rintro rfl; cases h
  obtain ⟨a, p, rfl⟩ : ∃ a q, p = a :: q := by cases p <;> simp_all
  rw [startsP_one] at h
  have ha : a = uq 91 := of_decide_eq_true h
  subst ha
  rw [Mt_one (by simp) (by rw [startsP_one]; decide) (by simp), show nth (c :: s) 0 0 = c from rfl]
  have : oneP (uq 91 :: p) c = (f, r) := by
    unfold oneP
    rw [startsP_one, startsP_one, hb]
    rfl
  rw [this]; rfl
theorem turned_law {m : List UInt8} (hm : m ≠ []) (h33 : nth m 0 0 ≠ 33) (hall : ∀ b ∈ m, b ≠ 91 ∧ b ≠ 93 ∧ b ≠ 92) (c : UInt8) :
    Mt (ofP ([91] ++ m ++ [93])) [c] = !Mt (ofP ([91, 33] ++ m ++ [93])) [c] := by
  have h91 : 91 ∉ m := fun h => (hall _ h).1 rfl
  have h93 : 93 ∉ m := fun h => (hall _ h).2.1 rfl
  have h92 : 92 ∉ m := fun h => (hall _ h).2.2 rfl
  obtain ⟨f, hf⟩ := brG_flat c m.length m true false (Nat.le_refl _) h91 h93 (fun _ => hm)
  have e1 : ofP ([91] ++ m ++ [93]) = uq 91 :: (m.map uq ++ [uq 93]) := by
    rw [ofP_plain _ (by simp [h92])]; simp
  have e2 : ofP ([91, 33] ++ m ++ [93]) = uq 91 :: uq 33 :: (m.map uq ++ [uq 93]) := by
    rw [ofP_plain _ (by simp [h92])]; simp
  have hns : startsP (m.map uq ++ [uq 93]) [33] = false := by
    cases m with
    | nil => exact absurd rfl hm
    | cons b m =>
      simp only [List.map_cons, List.cons_append, startsP_one, uq, Ch.mk.injEq, and_true]
      simpa [nth] using h33
  have b1 : bracketP (uq 91 :: (m.map uq ++ [uq 93])) c = some (f != false, []) := by
    simp only [bracketP, List.drop_succ_cons, List.drop_zero, hns, Bool.false_eq_true, if_false, hf, Option.map_some]
  have b2 : bracketP (uq 91 :: uq 33 :: (m.map uq ++ [uq 93])) c = some (f != true, []) := by
    simp only [bracketP, List.drop_succ_cons, List.drop_zero, startsP_one, decide_true, if_true, hf, Option.map_some]
  rw [e1, e2, Mt_bracket (by rw [startsP_one]; rfl) b1, Mt_bracket (by rw [startsP_one]; rfl) b2]
  cases f <;> rfl
theorem any_one (c : UInt8) : Mt [uq 63] [c] = true ∧ Mt [uq 63] [c, c] = false ∧ Mt [uq 63] [] = false := by
  have hn : noBr [uq 63] := fun d hd => by rw [List.mem_singleton] at hd; subst hd; decide
  refine ⟨?_, ?_, ?_⟩
  · rw [Mt_cons hn (by decide)]; rfl
  · rw [Mt_cons hn (by decide)]; rfl
  · rw [Mt_cons hn (by decide)]

/-! a piece cut off -/
def cutLen (s : List UInt8) (g : Bool) (i : Nat) : Nat := if g then s.length - i else i
def cutOk (p : List Ch) (s : List UInt8) (e g : Bool) (i : Nat) : Bool := if e then Mt p (s.drop (s.length - cutLen s g i)) else Mt p (s.take (cutLen s g i))
def cutRes (s : List UInt8) (e g : Bool) (i : Nat) : List UInt8 := if e then s.take (s.length - cutLen s g i) else s.drop (cutLen s g i)
def cutP (p : List Ch) (s : List UInt8) (e g : Bool) : List UInt8 := match (List.range (s.length + 1)).find? (cutOk p s e g) with
  | some i => cutRes s e g i
  | none => s
theorem cutP_hit {p : List Ch} {s : List UInt8} {e g : Bool} {i : Nat} (hi : i ≤ s.length) (hno : ∀ j, j < i → cutOk p s e g j = false) (h : cutOk p s e g i = true) : cutP p s e g = cutRes s e g i := by
  have : (List.range (s.length + 1)).find? (cutOk p s e g) = some i := by
    rw [List.find?_range_eq_some]
    exact ⟨h, by simp; omega, fun j hj => by simp [hno j hj]⟩
  rw [cutP, this]
theorem cutP_none {p : List Ch} {s : List UInt8} {e g : Bool} (hno : ∀ j, j < s.length + 1 → cutOk p s e g j = false) : cutP p s e g = s := by
  have : (List.range (s.length + 1)).find? (cutOk p s e g) = none := by
    rw [List.find?_eq_none]
    intro j hj
    simp [hno j (by simpa using hj)]
  rw [cutP, this]
theorem cutLen_le {s : List UInt8} {g : Bool} {i : Nat} (h : i ≤ s.length) : cutLen s g i ≤ s.length := by
  unfold cutLen; split <;> omega
theorem cut_law (p : List Ch) (s : List UInt8) (e g : Bool) : (cutP p s e g).length ≤ s.length ∧
    (e = true → cutP p s e g = s.take (cutP p s e g).length ∧ (cutP p s e g = s ∨ Mt p (s.drop (cutP p s e g).length) = true)) ∧
    (e = false → cutP p s e g = s.drop (s.length - (cutP p s e g).length) ∧ (cutP p s e g = s ∨ Mt p (s.take (s.length - (cutP p s e g).length)) = true)) := by
  cases hf : (List.range (s.length + 1)).find? (cutOk p s e g) with
  | none =>
    have h : cutP p s e g = s := by rw [cutP, hf]
    rw [h]
    exact ⟨Nat.le_refl _, fun _ => ⟨by simp, .inl rfl⟩, fun _ => ⟨by simp, .inl rfl⟩⟩
  | some i =>
    have h : cutP p s e g = cutRes s e g i := by rw [cutP, hf]
    have hk := List.find?_some hf
    have hm := List.mem_of_find?_eq_some hf
    have hi : i ≤ s.length := by simp at hm; omega
    have hl := cutLen_le (g := g) hi
    rw [h]
    unfold cutOk at hk
    unfold cutRes
    cases e with
    | true =>
      simp only [if_true] at hk ⊢
      have e1 : (s.take (s.length - cutLen s g i)).length = s.length - cutLen s g i := by simp
      rw [e1]
      exact ⟨by omega, fun _ => ⟨rfl, .inr hk⟩, fun h => by cases h⟩
    | false =>
      simp only [Bool.false_eq_true, if_false] at hk ⊢
      have e1 : s.length - (s.drop (cutLen s g i)).length = cutLen s g i := by simp; omega
      rw [e1]
      exact ⟨by simp, (fun h => by cases h), fun _ => ⟨rfl, .inr hk⟩⟩
end Go.Tri
