/-
  Quoted words one behind the other.
-/
import Derived.Test.YtfnmioggkmkmcaaDoorPLex6
namespace Go.Tri
open Go.RowKit
theorem contains_cons (b : UInt8) (l sub : List UInt8) : Lib.contains (b :: l) sub = (sub.isPrefixOf (b :: l) || Lib.contains l sub) := by
  unfold Lib.contains
  have hge := Lib.index_ge l sub
  rw [Lib.index]
  cases hp : sub.isPrefixOf (b :: l) with
  | true => simp
  | false =>
    rw [if_neg (by simp), Bool.false_or]
    split
    · rename_i h
      have : Lib.index l sub = -1 := by simpa using h
      rw [this]
    · rename_i h
      have h2 : ¬ Lib.index l sub = -1 := by simpa using h
      rw [decide_eq_true (by omega), decide_eq_true (by omega)]
theorem prefix_app {a b : List UInt8} : ∀ {l : List UInt8}, (a ++ b).isPrefixOf l = true → a.isPrefixOf l = true := fun h => by
  rw [List.isPrefixOf_iff_prefix] at *
  exact (List.prefix_append a b).trans h
theorem contains_app {a b : List UInt8} : ∀ (s : List UInt8), Lib.contains s (a ++ b) = true → Lib.contains s a = true
  | [], h => by
    unfold Lib.contains Lib.index at *
    cases a with
    | nil => rfl
    | cons c a => simp at h
  | c :: s, h => by
    rw [contains_cons, Bool.or_eq_true] at *
    rcases h with h | h
    · exact .inl (prefix_app h)
    · exact .inr (contains_app s h)
def opFirst : List UInt8 := [38, 124, 59, 60, 62, 40, 41]
theorem ops_two (c : UInt8) (h : Lib.contains opsS [32, c] = true) : hasB opFirst c = true := by
  revert c; exact u8_all (by decide +kernel)
theorem not_op {c : UInt8} {r : List UInt8} (h : hasB opFirst c = false) : isOp (c :: r) = false := by
  unfold isOp
  cases hx : Lib.contains opsS ([32] ++ c :: r ++ [32]) with
  | false => rfl
  | true =>
    have : Lib.contains opsS ([32, c] ++ (r ++ [32])) = true := by simpa using hx
    have := ops_two c (contains_app _ this)
    rw [h] at this; cases this
theorem opP_no {l : List UInt8} (h : hasB opFirst (nth l 0 0) = false) : opP l = [] := by
  have key : ∀ n, opAt l (n + 1) = false := fun n => by
    unfold opAt
    cases l with
    | nil =>
      rw [List.take_nil]
      rw [decide_eq_false (by simp)]; rfl
    | cons c r =>
      rw [List.take_succ_cons, not_op (show hasB opFirst c = false from h), Bool.and_false]
  unfold opP
  rw [opN, key, if_neg (by simp), opN, key, if_neg (by simp), opN, key, if_neg (by simp), opN]
/-- bytes that a word goes over one by one -/
def easyB (c : UInt8) : Bool := !hasB specials c && !hasB [34, 92, 39, 96, 36] c
theorem step_easy {c : UInt8} {r : List UInt8} (h : easyB c = true) : wordStep (c :: r) = .ok 1 := by
  have hk : c ≠ 34 ∧ c ≠ 92 ∧ c ≠ 39 ∧ c ≠ 96 ∧ c ≠ 36 := by
    have key : ∀ c : UInt8, easyB c = true → c ≠ 34 ∧ c ≠ 92 ∧ c ≠ 39 ∧ c ≠ 96 ∧ c ≠ 36 := u8_all (by decide +kernel)
    exact key c h
  obtain ⟨h1, h2, h3, h4, h5⟩ := hk
  have h2s : ∀ d, stB (c :: r) [36, d] = false := fun d => by
    unfold stB
    rw [decide_eq_false]
    intro e
    have := congrArg (fun l => nth l 0 0) e
    exact h5 (by simpa [nth] using this)
  unfold wordStep insideP
  rw [stB_one, stB_one, stB_one, stB_one, decide_eq_false h1, decide_eq_false h2, decide_eq_false h3, decide_eq_false h4, h2s, h2s]
  rw [if_neg (by simp), if_neg (by simp), if_neg (by simp), if_neg (by simp), if_neg (by simp)]
  exact congrArg SR.ok (by simp only [List.length_cons]; omega)
theorem easy_not {c : UInt8} (h : easyB c = true) : hasB specials c = false := by
  unfold easyB at h
  rw [Bool.and_eq_true] at h
  simpa using h.1
theorem wordL_fuel : ∀ (f g : Nat) (l : List UInt8), l.length ≤ f → l.length ≤ g → wordL f l = wordL g l
  | 0, g, l, h, _ => by
    have : l = [] := List.eq_nil_of_length_eq_zero (by omega)
    subst this; rw [wordL_end, wordL_end]
  | f + 1, 0, l, _, h => by
    have : l = [] := List.eq_nil_of_length_eq_zero (by omega)
    subst this; rw [wordL_end, wordL_end]
  | f + 1, g + 1, l, h1, h2 => by
    rw [wordL, wordL]
    split
    · rfl
    · rename_i hl
      split
      · rfl
      · have hf := wordStep_fit hl
        cases hs : wordStep l with
        | bad a e => rfl
        | ok k =>
          rw [hs] at hf
          have hk : 1 ≤ k := hf.1
          show (wordL f (l.drop k)).on k = (wordL g (l.drop k)).on k
          rw [wordL_fuel f g (l.drop k) (by rw [List.length_drop]; omega) (by rw [List.length_drop]; omega)]
theorem word_ok {l : List UInt8} {k : Nat} (h1 : hasB specials (nth l 0 0) = false) (hl : l ≠ []) (hs : wordStep l = .ok k) : wordP l = (wordP (l.drop k)).on k := by
  have hp := List.length_pos_iff.2 hl
  have hf := wordStep_fit hl
  rw [hs] at hf
  have hk : 1 ≤ k := hf.1
  unfold wordP
  obtain ⟨n, hn⟩ : ∃ n, l.length = n + 1 := ⟨l.length - 1, by omega⟩
  rw [hn, wordL, if_neg hl, if_neg (by rw [h1]; simp), hs]
  show (wordL n (l.drop k)).on k = _
  rw [wordL_fuel n (l.drop k).length (l.drop k) (by rw [List.length_drop]; omega) (Nat.le_refl _)]
theorem word_stop {l : List UInt8} (h : hasB specials (nth l 0 0) = true) : wordP l = .ok 0 := by
  unfold wordP
  cases l with
  | nil => rfl
  | cons c r => rw [List.length_cons, wordL, if_neg (by simp), if_pos h]
theorem word_easy : ∀ (m tail : List UInt8), m.all easyB = true → wordP (m ++ tail) = (wordP tail).on m.length
  | [], tail, _ => (SR.on_zero _).symm
  | c :: m, tail, h => by
    rw [List.all_cons, Bool.and_eq_true] at h
    rw [List.cons_append, word_ok (show hasB specials (nth (c :: (m ++ tail)) 0 0) = false from easy_not (c := c) h.1) (by simp) (step_easy h.1), List.drop_succ_cons, List.drop_zero, word_easy m tail h.2, SR.on_on]
    congr 1
    simp only [List.length_cons]; omega
/-- between single quotes -/
theorem index_first {m r : List UInt8} (h : 39 ∉ m) : Lib.indexByte (m ++ 39 :: r) 39 = (m.length : Int) := by
  induction m with
  | nil => simp [Lib.indexByte]
  | cons b m ih =>
    have hb : ¬ b = 39 := fun e => h (by simp [e])
    have := ih (fun h' => h (List.mem_cons_of_mem _ h'))
    rw [List.cons_append, Lib.indexByte, this]
    simp [hb] <;> omega
theorem step_single {m r : List UInt8} (h : 39 ∉ m) : wordStep (39 :: (m ++ 39 :: r)) = .ok (m.length + 2) := by
  unfold wordStep insideP
  rw [stB_one, stB_one, stB_one, if_neg (by decide), if_neg (by decide), if_pos (by decide)]
  unfold singleP
  rw [List.drop_succ_cons, List.drop_zero, index_first h, if_neg (by omega)]
  exact congrArg SR.ok (by omega)
theorem step_esc (c : UInt8) (r : List UInt8) : wordStep (92 :: c :: r) = .ok 2 := by
  unfold wordStep insideP
  rw [stB_one, stB_one, if_neg (by decide), if_pos (by decide)]
  exact congrArg SR.ok (by simp only [List.length_cons]; omega)
theorem word_single {m r : List UInt8} (h : 39 ∉ m) : wordP (39 :: (m ++ 39 :: r)) = (wordP r).on (m.length + 2) := by
  rw [word_ok (l := 39 :: (m ++ 39 :: r)) (show hasB specials 39 = false by decide) (by simp) (step_single h)]
  congr 2
  rw [List.drop_succ_cons, List.drop_append, List.drop_of_length_le (by omega)]
  rw [show m.length + 1 - m.length = 1 by omega]; rfl
/-- a text as octet.Quote makes it, between its quotes: gone over whole -/
theorem word_esc : ∀ (n : Nat) (s tail : List UInt8), s.length ≤ n → wordP (39 :: (escB s ++ 39 :: tail)) = (wordP tail).on ((escB s).length + 2) := by
  intro n
  induction n with
  | zero =>
    intro s tail h
    have : s = [] := List.eq_nil_of_length_eq_zero (by omega)
    subst this
    exact word_single (m := []) (by simp)
  | succ n ih =>
    intro s tail h
    by_cases hm : Lib.indexByte s 39 = -1
    · have hno := indexByte_none hm
      rw [escB_plain hno]
      exact word_single hno
    · have hge := Lib.indexByte_ge s 39
      obtain ⟨i, hi⟩ : ∃ i : Nat, Lib.indexByte s 39 = i := ⟨(Lib.indexByte s 39).toNat, by omega⟩
      obtain ⟨h1, h2, h3⟩ := indexByte_some hi
      have e : s = s.take i ++ 39 :: s.drop (i + 1) := by
        conv => lhs; rw [← List.take_append_drop i s, drop_nth 0 h1, h2]
      have e2 : escB s = s.take i ++ ([39, 92, 39, 39] ++ escB (s.drop (i + 1))) := by
        conv => lhs; rw [e]
        unfold escB
        rw [List.flatMap_append, List.flatMap_cons]
        have e4 : (s.take i).flatMap escC = s.take i := escB_plain h3
        rw [e4]; rfl
      rw [e2]
      have e3 : 39 :: ((s.take i ++ ([39, 92, 39, 39] ++ escB (s.drop (i + 1)))) ++ 39 :: tail) = 39 :: (s.take i ++ 39 :: (92 :: 39 :: (39 :: (escB (s.drop (i + 1)) ++ 39 :: tail)))) := by simp
      rw [e3, word_single h3, word_ok (l := 92 :: 39 :: _) (show hasB specials 92 = false by decide) (by simp) (step_esc 39 _)]
      show (((wordP (39 :: (escB (s.drop (i + 1)) ++ 39 :: tail))).on 2).on _) = _
      rw [ih (s.drop (i + 1)) tail (by rw [List.length_drop]; omega), SR.on_on, SR.on_on]
      congr 1
      simp only [List.length_append, List.length_cons, List.length_nil]
      omega
theorem plain_easy (c : UInt8) (h : plainC c = true) : easyB c = true := by
  revert c; exact u8_all (by decide +kernel)
theorem word_quote (s tail : List UInt8) : wordP (quoteB s ++ tail) = (wordP tail).on (quoteB s).length := by
  unfold quoteB
  split
  · rename_i h
    rw [Bool.and_eq_true] at h
    refine word_easy s tail ?_
    rw [List.all_eq_true] at *
    exact fun c hc => plain_easy c (h.2 c hc)
  · have := word_esc s.length s tail (Nat.le_refl _)
    have e : [39] ++ escB s ++ [39] ++ tail = 39 :: (escB s ++ 39 :: tail) := by simp
    rw [e, this]
    congr 1
    simp only [List.length_append, List.length_cons, List.length_nil]; omega
theorem tokL_fuel : ∀ (f g : Nat) (l : List UInt8), l.length < f → l.length < g → tokL f l = tokL g l
  | 0, _, l, h, _ => by omega
  | f + 1, 0, l, _, h => by omega
  | f + 1, g + 1, l, h1, h2 => by
    rw [tokL, tokL]
    split
    · rfl
    · rename_i hl
      split
      · rename_i hb
        have := blankN_le hl
        rw [tokL_fuel f g (l.drop (blankN l)) (by rw [List.length_drop]; omega) (by rw [List.length_drop]; omega)]
      · rfl
theorem tokP_blank {l : List UInt8} {n : Nat} (hl : l ≠ []) (hb : blankN l = n) (hn : n ≠ 0) : tokP l = (tokP (l.drop n)).on n := by
  have hle := blankN_le hl
  unfold tokP
  conv => lhs; rw [tokL]
  rw [if_neg hl, hb, if_pos hn, tokL_fuel l.length ((l.drop n).length + 1) (l.drop n) (by rw [List.length_drop]; omega) (by omega)]
theorem tokP_head {l : List UInt8} (hl : l ≠ []) (hb : blankN l = 0) : tokP l = headP l := by
  unfold tokP
  rw [tokL, if_neg hl, if_neg (by rw [hb]; simp)]
theorem blank_ws {c : UInt8} (h : c = 32 ∨ c = 9) (r : List UInt8) : blankN (c :: r) = 1 := by
  have h1 : stB (c :: r) [92, 10] = false := by
    unfold stB
    rw [decide_eq_false]
    intro e
    have := congrArg (fun l => nth l 0 0) e
    have h2 : c = 92 := by simpa [nth] using this
    rcases h with rfl | rfl <;> cases h2
  unfold blankN
  rw [h1, if_neg (by simp), if_pos (by rcases h with rfl | rfl <;> rfl)]
theorem tokP_ws {c : UInt8} (h : c = 32 ∨ c = 9) (r : List UInt8) : tokP (c :: r) = (tokP r).on 1 := tokP_blank (by simp) (blank_ws h r) (by decide)
/-- how a quoted text begins -/
theorem quote_head (s : List UInt8) : ∃ c r, quoteB s = c :: r ∧ (plainC c = true ∨ c = 39) := by
  unfold quoteB
  split
  · rename_i h
    rw [Bool.and_eq_true, decide_eq_true_eq, List.all_eq_true] at h
    cases s with
    | nil => exact absurd rfl h.1
    | cons c r => exact ⟨c, r, rfl, .inl (h.2 c List.mem_cons_self)⟩
  · exact ⟨39, escB s ++ [39], by simp, .inr rfl⟩
theorem head_word {c : UInt8} (h : plainC c = true ∨ c = 39) (r : List UInt8) : blankN (c :: r) = 0 ∧ headP (c :: r) = restP (c :: r) := by
  have key : ∀ c : UInt8, (plainC c = true ∨ c = 39) → c ≠ 92 ∧ c ≠ 32 ∧ c ≠ 9 ∧ c ≠ 35 ∧ c ≠ 10 ∧ hasB opFirst c = false := u8_all (by decide +kernel)
  obtain ⟨k1, k2, k3, k4, k5, k6⟩ := key c h
  have h1 : stB (c :: r) [92, 10] = false := by
    unfold stB
    rw [decide_eq_false]
    intro e
    have := congrArg (fun l => nth l 0 0) e
    exact k1 (by simpa [nth] using this)
  constructor
  · unfold blankN
    rw [h1, if_neg (by simp)]
    show (if (decide (c = 32) || decide (c = 9)) = true then 1 else if c = 35 then _ else 0) = 0
    rw [decide_eq_false k2, decide_eq_false k3, if_neg (by simp), if_neg k4]
  · unfold headP
    rw [if_neg (show ¬ nth (c :: r) 0 0 = 10 from k5), opP_no (show hasB opFirst (nth (c :: r) 0 0) = false from k6), if_neg (by simp)]
theorem tokP_quote (s r : List UInt8) (h : (quoteB s).length ≤ 4096) : tokP (quoteB s ++ 9 :: r) = .tok 0 (quoteB s).length 1 (quoteB s) := by
  obtain ⟨c, q, hq, hc⟩ := quote_head s
  have hw := word_quote s (9 :: r)
  rw [word_stop (l := 9 :: r) (show hasB specials 9 = true by decide)] at hw
  have hcons : quoteB s ++ 9 :: r = c :: (q ++ 9 :: r) := by rw [hq]; rfl
  have hh := head_word hc (q ++ 9 :: r)
  rw [hcons, tokP_head (by simp) hh.1, hh.2, ← hcons]
  unfold restP
  rw [hw]
  show (if 4096 < (quoteB s).length + 0 then _ else _ : TR) = _
  rw [Nat.add_zero, if_neg (by omega)]
  have hnum : numberB (quoteB s ++ 9 :: r) (quoteB s).length = false := by
    unfold numberB
    rw [List.drop_left]
    show (_ && (stB (9 :: r) [60] || stB (9 :: r) [62])) = false
    rw [stB_one, stB_one]; simp
  rw [hnum, List.take_left]; rfl
def quotedS (l : List (List UInt8)) : List UInt8 := l.flatMap fun t => [32] ++ quoteB t ++ [9]
theorem lineL_quoted : ∀ (l : List (List UInt8)) (f p : Nat) (pre : List UInt8), (pre = [] ∨ pre = [9]) → (∀ t ∈ l, (quoteB t).length ≤ 4096) → (pre ++ quotedS l).length < f →
    ∃ ts, lineL f p (pre ++ quotedS l) = .ok ts (pre ++ quotedS l).length ∧ ts.length = l.length ∧ (∀ i, i < l.length → (nth ts i tok0).kind = 1 ∧ (nth ts i tok0).text = quoteB (nth l i [])) ∧ ∀ t ∈ ts, t.kind = 1
  | [], f + 1, p, pre, hp, _, h => by
    refine ⟨[], ?_, rfl, fun i h => absurd h (Nat.not_lt_zero i), fun t h => by cases h⟩
    have e : tokP (pre ++ quotedS []) = .stop (pre ++ quotedS []).length := by
      rcases hp with rfl | rfl
      · rfl
      · show tokP (9 :: []) = _
        rw [tokP_ws (.inr rfl)]; rfl
    rw [lineL, e]
  | t :: l, f + 1, p, pre, hp, hq, h => by
    have hqt := hq t List.mem_cons_self
    have e0 : quotedS (t :: l) = 32 :: (quoteB t ++ 9 :: quotedS l) := by
      unfold quotedS
      rw [List.flatMap_cons]
      simp
    have e1 : tokP (pre ++ quotedS (t :: l)) = .tok (pre.length + 1) (pre.length + 1 + (quoteB t).length) 1 (quoteB t) := by
      rw [e0]
      rcases hp with rfl | rfl
      · rw [List.nil_append, tokP_ws (.inl rfl), tokP_quote t _ hqt]; rfl
      · show tokP (9 :: 32 :: (quoteB t ++ 9 :: quotedS l)) = _
        rw [tokP_ws (.inr rfl), tokP_ws (.inl rfl), tokP_quote t _ hqt]
        show TR.tok (1 + (1 + 0)) (1 + (1 + (quoteB t).length)) 1 _ = _
        congr 1
        simp only [List.length_cons, List.length_nil]; omega
    have e2 : (pre ++ quotedS (t :: l)).drop (pre.length + 1 + (quoteB t).length) = [9] ++ quotedS l := by
      rw [e0, show pre ++ 32 :: (quoteB t ++ 9 :: quotedS l) = (pre ++ [32] ++ quoteB t) ++ ([9] ++ quotedS l) by simp]
      exact List.drop_left' (by simp only [List.length_append, List.length_cons, List.length_nil])
    have e3 : (pre ++ quotedS (t :: l)).length = pre.length + 1 + (quoteB t).length + ([9] ++ quotedS l).length := by
      rw [e0]
      simp only [List.length_append, List.length_cons, List.length_nil]; omega
    obtain ⟨ts, h1, h2, h3, h4⟩ := lineL_quoted l f (p + (pre.length + 1 + (quoteB t).length)) [9] (.inr rfl) (fun u hu => hq u (List.mem_cons_of_mem _ hu)) (by omega)
    refine ⟨⟨1, quoteB t, p + (pre.length + 1), [], false⟩ :: ts, ?_, by simp [h2], fun i hi => ?_, fun u hu => ?_⟩
    · rw [lineL, e1]
      show (if 1 = 3 then _ else _ : LnR) = _
      rw [if_neg (by decide), e2, h1, e3]; rfl
    · cases i with
      | zero => exact ⟨rfl, rfl⟩
      | succ i => exact h3 i (by simpa using hi)
    · rcases List.mem_cons.1 hu with rfl | hu
      · rfl
      · exact h4 u hu
theorem docsL_ones (s : List UInt8) : ∀ (ts : List Tok) (prev : Option Tok) (j : Nat), (∀ t ∈ ts, t.kind = 1) → (∀ q, prev = some q → q.kind = 1) → docsL s prev ts j = .ok ts j
  | [], _, _, _, _ => rfl
  | t :: r, prev, j, h, hp => by
    have hh : hereB prev t = false := by
      cases prev with
      | none => rfl
      | some q =>
        unfold hereB
        have := hp q rfl
        simp [this]
    rw [docsL, if_neg (by rw [hh]; simp), docsL_ones s r (some t) j (fun u hu => h u (List.mem_cons_of_mem _ hu)) (fun q hq => by cases hq; exact h t List.mem_cons_self)]
    rfl
theorem lineP_at0 {s : List UInt8} (h1 : s.length ≤ 65536) : lineP s 0 = lineAt s 0 := by
  unfold lineP
  rw [if_neg (by omega), if_neg (by omega)]; rfl
theorem line_quoted (l : List (List UInt8)) (h : (quotedS l).length ≤ 4000) : ∃ ts, lineP (quotedS l) 0 = ⟨ts, (quotedS l).length, 0, 0⟩ ∧ ts.length = l.length ∧ ∀ i, i < l.length → (nth ts i tok0).kind = 1 ∧ (nth ts i tok0).text = quoteB (nth l i []) := by
  have hq : ∀ t ∈ l, (quoteB t).length ≤ 4096 := fun t ht => by
    have : (quoteB t).length ≤ (quotedS l).length := by
      clear h
      induction l with
      | nil => cases ht
      | cons u l ih =>
        unfold quotedS
        rw [List.flatMap_cons, List.length_append]
        rcases List.mem_cons.1 ht with rfl | ht
        · simp only [List.length_append, List.length_cons]; omega
        · have := ih ht
          unfold quotedS at this
          omega
    omega
  obtain ⟨ts, h1, h2, h3, h4⟩ := lineL_quoted l ((quotedS l).length + 1) 0 [] (.inl rfl) hq (Nat.lt_succ_self _)
  refine ⟨ts, ?_, h2, h3⟩
  rw [List.nil_append] at h1
  have e : lineP (quotedS l) 0 = lineAt (quotedS l) 0 := lineP_at0 (by omega)
  rw [e]
  unfold lineAt
  rw [List.drop_zero, h1]
  simp only [Nat.zero_add, docsL_ones (quotedS l) ts none (quotedS l).length h4 (fun q hq => by cases hq)]
end Go.Tri
