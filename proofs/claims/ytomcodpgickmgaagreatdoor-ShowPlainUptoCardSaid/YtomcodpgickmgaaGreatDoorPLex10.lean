/-
  Tokens stand in the text where they say.
-/
import Derived.Test.YtomcodpgickmgaaGreatDoorPLex5
namespace Go.Tri
open Go.RowKit
theorem nth_drop_h (s : List UInt8) (i : Nat) : nth (s.drop i) 0 0 = nth s i 0 := by
  unfold nth; rw [List.getD_eq_getElem?_getD, List.getD_eq_getElem?_getD, List.getElem?_drop]; rfl
def gapB (s : List UInt8) (a b : Nat) : Prop := ∀ i, a ≤ i → i < b → (∃ k, a ≤ k ∧ k ≤ i ∧ nth s k 0 = 35) ∨ nth s i 0 = 9 ∨ nth s i 0 = 32 ∨ nth s i 0 = 92 ∨ nth s i 0 = 10
theorem gap_app {s : List UInt8} {a b c : Nat} (h1 : gapB s a b) (h2 : gapB s b c) (hab : a ≤ b) : gapB s a c := fun i hi hc => by
  by_cases h : i < b
  · exact h1 i hi h
  · rcases h2 i (by omega) hc with ⟨k, k1, k2, k3⟩ | h
    · exact .inl ⟨k, by omega, k2, k3⟩
    · exact .inr h
theorem gap_nil (s : List UInt8) (a : Nat) : gapB s a a := fun i h1 h2 => absurd h2 (by omega)
/-- of the token at j: so far it is gone over blanks; it is what stands there -/
def StT (s : List UInt8) (j : Nat) : TR → Prop
  | .tok off k kind text => k = off + text.length ∧ j + k ≤ s.length ∧ (s.drop (j + off)).take text.length = text ∧ text ≠ [] ∧ 1 ≤ kind ∧ kind ≤ 4 ∧ gapB s j (j + off)
  | .stop k => j + k ≤ s.length
  | .bad _ _ => True
theorem stB_take {l t : List UInt8} (h : stB l t = true) : l.take t.length = t := of_decide_eq_true h
theorem gap_blank {s : List UInt8} {j : Nat} (hj : j < s.length) : gapB s j (j + blankN (s.drop j)) := by
  intro i h1 h2
  unfold blankN at h2
  split at h2
  · rename_i h
    have ht := stB_take h
    have h2l := stB_len h
    rw [List.length_drop] at h2l
    replace h2l : 2 ≤ s.length - j := h2l
    have e0 : nth s j 0 = 92 := by
      have := congrArg (fun l => nth l 0 0) ht
      simpa [drop_nth 0 hj, nth] using this
    have e1 : nth s (j + 1) 0 = 10 := by
      have := congrArg (fun l => nth l 1 0) ht
      rw [drop_nth 0 hj, drop_nth 0 (show j + 1 < s.length by omega)] at this
      simpa [nth] using this
    rcases (show i = j ∨ i = j + 1 by omega) with rfl | rfl
    · exact .inr (.inr (.inr (.inl e0)))
    · exact .inr (.inr (.inr (.inr e1)))
  · split at h2
    · rename_i h
      obtain rfl : i = j := by omega
      rw [nth_drop_h, Bool.or_eq_true, decide_eq_true_eq, decide_eq_true_eq] at h
      rcases h with h | h
      · exact .inr (.inr (.inl h))
      · exact .inr (.inl h)
    · split at h2
      · rename_i h
        rw [nth_drop_h] at h
        exact .inl ⟨j, Nat.le_refl _, h1, h⟩
      · omega
theorem headP_st {s : List UInt8} {j : Nat} (hj : j < s.length) (hb : blankN (s.drop j) = 0) : StT s j (headP (s.drop j)) := by
  have hl : s.drop j ≠ [] := List.ne_nil_of_length_pos (by rw [List.length_drop]; omega)
  have hfit := headP_fit hl hb
  have hlen : (s.drop j).length = s.length - j := List.length_drop
  unfold headP at hfit ⊢
  split
  · rename_i h
    rw [nth_drop_h] at h
    refine ⟨rfl, by omega, ?_, by simp, by decide, by decide, gap_nil s j⟩
    rw [Nat.add_zero, drop_nth 0 hj, h]; rfl
  · split
    · rename_i h1 h2
      obtain ⟨h3, h4, h5⟩ := opN_len 3 (s.drop j)
      refine ⟨by omega, ?_, ?_, h2, by decide, by decide, gap_nil s j⟩
      · rw [hlen] at h3
        show j + (opN 3 (s.drop j)).length ≤ _
        omega
      · rw [Nat.add_zero]; exact h5.symm
    · rename_i h1 h2
      rw [if_neg h1, if_neg h2] at hfit
      unfold restP at hfit ⊢
      cases hw : wordP (s.drop j) with
      | bad a e => trivial
      | ok k =>
        simp only [hw] at hfit
        show StT s j (if 4096 < k then .bad 0 51 else _)
        split
        · trivial
        · rename_i h3
          rw [if_neg h3] at hfit
          have hk := wordP_fit hw
          have hk1 : 1 ≤ k := hfit.1
          have htl : ((s.drop j).take k).length = k := by rw [List.length_take]; omega
          refine ⟨by omega, by omega, by rw [Nat.add_zero, htl], ?_, by split <;> decide, by split <;> decide, gap_nil s j⟩
          exact List.ne_nil_of_length_pos (by omega)
theorem stT_on {s : List UInt8} {j n : Nat} {r : TR} (h : StT s (j + n) r) (hg : gapB s j (j + n)) : StT s j (r.on n) := by
  cases r with
  | stop k =>
    show j + (n + k) ≤ _
    have h2 : j + n + k ≤ s.length := h
    omega
  | bad a e => trivial
  | tok off k kind text =>
    obtain ⟨h1, h2, h3, h4, h5, h6, h7⟩ := h
    refine ⟨by omega, by omega, by rw [← Nat.add_assoc]; exact h3, h4, h5, h6, ?_⟩
    rw [← Nat.add_assoc]
    exact gap_app hg h7 (by omega)
theorem tokL_st (s : List UInt8) : ∀ (f j : Nat), j ≤ s.length → StT s j (tokL f (s.drop j))
  | 0, j, h => by show j + 0 ≤ _; omega
  | f + 1, j, h => by
    unfold tokL
    split
    · show j + 0 ≤ _; omega
    · rename_i hl
      have hj : j < s.length := by
        refine Classical.byContradiction fun hn => hl (List.drop_of_length_le (by omega))
      have hb := blankN_le hl
      rw [List.length_drop] at hb
      split
      · rw [List.drop_drop]
        exact stT_on (tokL_st s f (j + blankN (s.drop j)) (by omega)) (gap_blank hj)
      · rename_i h0
        exact headP_st hj (by simpa using h0)
def StandP (s : List UInt8) : Nat → List Tok → Nat → Prop
  | a, [], e => a ≤ e ∧ e ≤ s.length
  | a, t :: r, e => (a ≤ t.pos ∧ t.pos + t.text.length ≤ s.length ∧ (s.drop t.pos).take t.text.length = t.text ∧ t.text ≠ [] ∧ 1 ≤ t.kind ∧ t.kind ≤ 4 ∧ gapB s a t.pos) ∧ StandP s (t.pos + t.text.length) r e
theorem lineL_st (s : List UInt8) : ∀ (f j : Nat) (ts : List Tok) (k : Nat), j ≤ s.length → lineL f j (s.drop j) = .ok ts k → StandP s j ts (j + k)
  | 0, j, ts, k, h, h1 => by cases h1; exact ⟨by omega, by omega⟩
  | f + 1, j, ts, k, h, h1 => by
    rw [lineL] at h1
    have hst : StT s j (tokP (s.drop j)) := tokL_st s _ j h
    cases ht : tokP (s.drop j) with
    | stop m =>
      rw [ht] at hst
      simp only [ht] at h1
      cases h1
      exact ⟨by omega, hst⟩
    | bad a e => simp only [ht] at h1; cases h1
    | tok off m kind text =>
      rw [ht] at hst
      simp only [ht] at h1
      obtain ⟨s1, s2, s3, s4, s5, s6, s7⟩ := hst
      have hhead : (j ≤ j + off ∧ j + off + text.length ≤ s.length ∧ (s.drop (j + off)).take text.length = text ∧ text ≠ [] ∧ 1 ≤ kind ∧ kind ≤ 4 ∧ gapB s j (j + off)) := ⟨by omega, by omega, s3, s4, s5, s6, s7⟩
      split at h1
      · cases h1
        exact ⟨hhead, by show j + off + text.length ≤ _; omega, by omega⟩
      · cases hr : lineL f (j + m) ((s.drop j).drop m) with
        | bad a e => rw [hr] at h1; cases h1
        | ok ts' k' =>
          rw [hr] at h1
          cases h1
          rw [List.drop_drop] at hr
          have := lineL_st s f (j + m) ts' k' s2 hr
          refine ⟨hhead, ?_⟩
          rw [show j + off + text.length = j + m by omega, show j + (m + k') = j + m + k' by omega]
          exact this
theorem docL_le (strip : Bool) (d : List UInt8) : ∀ (f : Nat) (l : List UInt8) (x : List UInt8 × Nat), docL strip d f l = some x → x.2 ≤ l.length
  | 0, l, x, h => by cases h
  | f + 1, l, x, h => by
    rw [docL] at h
    split at h
    · cases h
    · split at h
      · cases h
        show min _ _ ≤ _
        omega
      · split at h
        · cases h
        · rename_i hb
          have hb' : hasB l 10 = true := by simpa using hb
          have hr := (remark_has (l := l)).1 hb'
          cases hd : docL strip d f (l.drop (remark l + 1)) with
          | none => rw [hd] at h; cases h
          | some y =>
            rw [hd] at h
            cases h
            have := docL_le strip d f _ y hd
            rw [List.length_drop] at this
            show remark l + 1 + y.2 ≤ _
            omega
theorem docsL_st (s : List UInt8) : ∀ (ts : List Tok) (prev : Option Tok) (a e : Nat) (ds : List Tok) (j : Nat), StandP s a ts e → docsL s prev ts e = .ok ds j → StandP s a ds j ∧ e ≤ j := by
  have key : ∀ (ts : List Tok) (prev : Option Tok) (a e0 e : Nat) (ds : List Tok) (j : Nat), e0 ≤ e → e ≤ s.length → StandP s a ts e0 → docsL s prev ts e = .ok ds j → StandP s a ds j ∧ e ≤ j := by
    intro ts
    induction ts with
    | nil =>
      intro prev a e0 e ds j h0 h1 h2 h3
      cases h3
      exact ⟨⟨Nat.le_trans h2.1 h0, h1⟩, Nat.le_refl _⟩
    | cons t r ih =>
      intro prev a e0 e ds j h0 h1 h2 h3
      rw [docsL] at h3
      split at h3
      · cases hd : docP (stripB prev) (bareP t.text) (s.drop e) with
        | none => simp only [hd] at h3; cases h3
        | some x =>
          simp only [hd] at h3
          have hx := docL_le _ _ _ _ _ hd
          rw [List.length_drop] at hx
          cases hr : docsL s (some t) r (e + x.2) with
          | bad p => rw [hr] at h3; cases h3
          | ok ds' j' =>
            rw [hr] at h3
            cases h3
            obtain ⟨k1, k2⟩ := ih (some t) _ e0 (e + x.2) ds' j (by omega) (by omega) h2.2 hr
            exact ⟨⟨h2.1, k1⟩, by omega⟩
      · cases hr : docsL s (some t) r e with
        | bad p => rw [hr] at h3; cases h3
        | ok ds' j' =>
          rw [hr] at h3
          cases h3
          obtain ⟨k1, k2⟩ := ih (some t) _ e0 e ds' j h0 h1 h2.2 hr
          exact ⟨⟨h2.1, k1⟩, k2⟩
  intro ts prev a e ds j h1 h2
  have he : e ≤ s.length := by
    clear h2
    induction ts generalizing a with
    | nil => exact h1.2
    | cons t r ih => exact ih _ h1.2
  exact key ts prev a e e ds j (Nat.le_refl _) he h1 h2
theorem lineL_faulty : ∀ (f p : Nat) (l : List UInt8) (a e : Nat), lineL f p l = .bad a e → e ≠ 0
  | 0, p, l, a, e, h => by cases h
  | f + 1, p, l, a, e, h => by
    rw [lineL] at h
    have hfit := tokP_fit l
    cases ht : tokP l with
    | stop k => simp only [ht] at h; cases h
    | bad a' e' =>
      rw [ht] at hfit
      simp only [ht] at h
      cases h; exact hfit
    | tok off k kind text =>
      simp only [ht] at h
      split at h
      · cases h
      · cases hr : lineL f (p + k) (l.drop k) with
        | bad a' e' =>
          rw [hr] at h
          cases h
          exact lineL_faulty f _ _ _ _ hr
        | ok ts j => rw [hr] at h; cases h
theorem lineP_ok {s : List UInt8} {i : Int} (h : (lineP s i).err = 0) : s.length ≤ 65536 ∧ 0 ≤ i ∧ i ≤ s.length ∧ ∃ ts k ds j, lineL (s.length + 1) i.toNat (s.drop i.toNat) = .ok ts k ∧ docsL s none ts (i.toNat + k) = .ok ds j ∧ lineP s i = ⟨ds, j, 0, 0⟩ := by
  unfold lineP at *
  split at h
  · cases h
  · rename_i h1
    rw [if_neg h1] at *
    split at h
    · cases h
    · rename_i h2
      rw [if_neg h2]
      refine ⟨by omega, by omega, by omega, ?_⟩
      unfold lineAt at *
      cases hl : lineL (s.length + 1) i.toNat (s.drop i.toNat) with
      | bad a e =>
        simp only [hl] at h
        exact absurd h (lineL_faulty _ _ _ _ _ hl)
      | ok ts k =>
        simp only [hl] at h ⊢
        cases hd : docsL s none ts (i.toNat + k) with
        | bad a => simp only [hd] at h; cases h
        | ok ds j => exact ⟨ts, k, ds, j, rfl, hd, rfl⟩
theorem stands {s : List UInt8} (h : (lineP s 0).err = 0) : StandP s 0 (lineP s 0).toks (lineP s 0).fin := by
  obtain ⟨_, _, _, ts, k, ds, j, h1, h2, h3⟩ := lineP_ok h
  rw [h3]
  have := lineL_st s _ 0 ts k (Nat.zero_le _) (by simpa using h1)
  simp only [Nat.zero_add] at this
  exact (docsL_st s ts none 0 k ds j this (by simpa using h2)).1
/-- the same, from the n-th token on -/
theorem StandP.at {s : List UInt8} {l : List Tok} {e : Nat} : ∀ {n a : Nat}, StandP s a (l.drop n) e → n < l.length → (a ≤ (nth l n tok0).pos ∧ (nth l n tok0).pos + (nth l n tok0).text.length ≤ s.length ∧ (s.drop (nth l n tok0).pos).take (nth l n tok0).text.length = (nth l n tok0).text ∧ (nth l n tok0).text ≠ [] ∧ 1 ≤ (nth l n tok0).kind ∧ (nth l n tok0).kind ≤ 4 ∧ gapB s a (nth l n tok0).pos) ∧ StandP s ((nth l n tok0).pos + (nth l n tok0).text.length) (l.drop (n + 1)) e := fun h hn => by
  rw [drop_nth tok0 hn] at h
  exact h
theorem stand_len {s : List UInt8} : ∀ {l : List Tok} {a e : Nat}, StandP s a l e → a + l.length ≤ e ∧ e ≤ s.length
  | [], a, e, h => ⟨by simpa using h.1, h.2⟩
  | t :: r, a, e, h => by
    obtain ⟨⟨h1, h2, h3, h4, _⟩, h5⟩ := h
    have := stand_len h5
    have hp := List.length_pos_iff.2 h4
    simp only [List.length_cons]
    omega
deriving instance DecidableEq for LineV
end Go.Tri

/-
  Quoted words one behind the other.
-/
namespace Go.Tri
open Go.RowKit
theorem contains_cons (b : UInt8) (l sub : List UInt8) : Lib.contains (b :: l) sub = (sub.isPrefixOf (b :: l) || Lib.contains l sub) := by
  unfold Lib.contains
  have hge := Lib.index_ge l sub
  rw [Lib.index]
  cases hp : sub.isPrefixOf (b :: l) with
  | true => simp
  | false =>
    rw [if_neg (by simp), Bool.false_or]
    split
    · rename_i h
      have : Lib.index l sub = -1 := by simpa using h
      rw [this]
    · rename_i h
      have h2 : ¬ Lib.index l sub = -1 := by simpa using h
      rw [decide_eq_true (by omega), decide_eq_true (by omega)]
theorem prefix_app {a b : List UInt8} : ∀ {l : List UInt8}, (a ++ b).isPrefixOf l = true → a.isPrefixOf l = true := fun h => by
  rw [List.isPrefixOf_iff_prefix] at *
  exact (List.prefix_append a b).trans h
theorem contains_app {a b : List UInt8} : ∀ (s : List UInt8), Lib.contains s (a ++ b) = true → Lib.contains s a = true
  | [], h => by
    unfold Lib.contains Lib.index at *
    cases a with
    | nil => rfl
    | cons c a => simp at h
  | c :: s, h => by
    rw [contains_cons, Bool.or_eq_true] at *
    rcases h with h | h
    · exact .inl (prefix_app h)
    · exact .inr (contains_app s h)
def opFirst : List UInt8 := [38, 124, 59, 60, 62, 40, 41]
theorem ops_two (c : UInt8) (h : Lib.contains opsS [32, c] = true) : hasB opFirst c = true := by
  revert c; exact u8_all (by decide +kernel)
theorem not_op {c : UInt8} {r : List UInt8} (h : hasB opFirst c = false) : isOp (c :: r) = false := by
  unfold isOp
  cases hx : Lib.contains opsS ([32] ++ c :: r ++ [32]) with
  | false => rfl
  | true =>
    have : Lib.contains opsS ([32, c] ++ (r ++ [32])) = true := by simpa using hx
    have := ops_two c (contains_app _ this)
    rw [h] at this; cases this
theorem opP_no {l : List UInt8} (h : hasB opFirst (nth l 0 0) = false) : opP l = [] := by
  have key : ∀ n, opAt l (n + 1) = false := fun n => by
    unfold opAt
    cases l with
    | nil =>
      rw [List.take_nil]
      rw [decide_eq_false (by simp)]; rfl
    | cons c r =>
      rw [List.take_succ_cons, not_op (show hasB opFirst c = false from h), Bool.and_false]
  unfold opP
  rw [opN, key, if_neg (by simp), opN, key, if_neg (by simp), opN, key, if_neg (by simp), opN]
/-- bytes that a word goes over one by one -/
def easyB (c : UInt8) : Bool := !hasB specials c && !hasB [34, 92, 39, 96, 36] c
theorem step_easy {c : UInt8} {r : List UInt8} (h : easyB c = true) : wordStep (c :: r) = .ok 1 := by
  have hk : c ≠ 34 ∧ c ≠ 92 ∧ c ≠ 39 ∧ c ≠ 96 ∧ c ≠ 36 := by
    have key : ∀ c : UInt8, easyB c = true → c ≠ 34 ∧ c ≠ 92 ∧ c ≠ 39 ∧ c ≠ 96 ∧ c ≠ 36 := u8_all (by decide +kernel)
    exact key c h
  obtain ⟨h1, h2, h3, h4, h5⟩ := hk
  have h2s : ∀ d, stB (c :: r) [36, d] = false := fun d => by
    unfold stB
    rw [decide_eq_false]
    intro e
    have := congrArg (fun l => nth l 0 0) e
    exact h5 (by simpa [nth] using this)
  unfold wordStep insideP
  rw [stB_one, stB_one, stB_one, stB_one, decide_eq_false h1, decide_eq_false h2, decide_eq_false h3, decide_eq_false h4, h2s, h2s]
  rw [if_neg (by simp), if_neg (by simp), if_neg (by simp), if_neg (by simp), if_neg (by simp)]
  exact congrArg SR.ok (by simp only [List.length_cons]; omega)
theorem easy_not {c : UInt8} (h : easyB c = true) : hasB specials c = false := by
  unfold easyB at h
  rw [Bool.and_eq_true] at h
  simpa using h.1
theorem wordL_fuel : ∀ (f g : Nat) (l : List UInt8), l.length ≤ f → l.length ≤ g → wordL f l = wordL g l
  | 0, g, l, h, _ => by
    have : l = [] := List.eq_nil_of_length_eq_zero (by omega)
    subst this; rw [wordL_end, wordL_end]
  | f + 1, 0, l, _, h => by
    have : l = [] := List.eq_nil_of_length_eq_zero (by omega)
    subst this; rw [wordL_end, wordL_end]
  | f + 1, g + 1, l, h1, h2 => by
    rw [wordL, wordL]
    split
    · rfl
    · rename_i hl
      split
      · rfl
      · have hf := wordStep_fit hl
        cases hs : wordStep l with
        | bad a e => rfl
        | ok k =>
          rw [hs] at hf
          have hk : 1 ≤ k := hf.1
          show (wordL f (l.drop k)).on k = (wordL g (l.drop k)).on k
          rw [wordL_fuel f g (l.drop k) (by rw [List.length_drop]; omega) (by rw [List.length_drop]; omega)]
theorem word_ok {l : List UInt8} {k : Nat} (h1 : hasB specials (nth l 0 0) = false) (hl : l ≠ []) (hs : wordStep l = .ok k) : wordP l = (wordP (l.drop k)).on k := by
  have hp := List.length_pos_iff.2 hl
  have hf := wordStep_fit hl
  rw [hs] at hf
  have hk : 1 ≤ k := hf.1
  unfold wordP
  obtain ⟨n, hn⟩ : ∃ n, l.length = n + 1 := ⟨l.length - 1, by omega⟩
  rw [hn, wordL, if_neg hl, if_neg (by rw [h1]; simp), hs]
  show (wordL n (l.drop k)).on k = _
  rw [wordL_fuel n (l.drop k).length (l.drop k) (by rw [List.length_drop]; omega) (Nat.le_refl _)]
theorem word_stop {l : List UInt8} (h : hasB specials (nth l 0 0) = true) : wordP l = .ok 0 := by
  unfold wordP
  cases l with
  | nil => rfl
  | cons c r => rw [List.length_cons, wordL, if_neg (by simp), if_pos h]
theorem word_easy : ∀ (m tail : List UInt8), m.all easyB = true → wordP (m ++ tail) = (wordP tail).on m.length
  | [], tail, _ => (SR.on_zero _).symm
  | c :: m, tail, h => by
    rw [List.all_cons, Bool.and_eq_true] at h
    rw [List.cons_append, word_ok (show hasB specials (nth (c :: (m ++ tail)) 0 0) = false from easy_not (c := c) h.1) (by simp) (step_easy h.1), List.drop_succ_cons, List.drop_zero, word_easy m tail h.2, SR.on_on]
    congr 1
    simp only [List.length_cons]; omega
/-- between single quotes -/
theorem index_first {m r : List UInt8} (h : 39 ∉ m) : Lib.indexByte (m ++ 39 :: r) 39 = (m.length : Int) := by
  induction m with
  | nil => simp [Lib.indexByte]
  | cons b m ih =>
    have hb : ¬ b = 39 := fun e => h (by simp [e])
    have := ih (fun h' => h (List.mem_cons_of_mem _ h'))
    rw [List.cons_append, Lib.indexByte, this]
    simp [hb] <;> omega
theorem step_single {m r : List UInt8} (h : 39 ∉ m) : wordStep (39 :: (m ++ 39 :: r)) = .ok (m.length + 2) := by
  unfold wordStep insideP
  rw [stB_one, stB_one, stB_one, if_neg (by decide), if_neg (by decide), if_pos (by decide)]
  unfold singleP
  rw [List.drop_succ_cons, List.drop_zero, index_first h, if_neg (by omega)]
  exact congrArg SR.ok (by omega)
theorem step_esc (c : UInt8) (r : List UInt8) : wordStep (92 :: c :: r) = .ok 2 := by
  unfold wordStep insideP
  rw [stB_one, stB_one, if_neg (by decide), if_pos (by decide)]
  exact congrArg SR.ok (by simp only [List.length_cons]; omega)
theorem word_single {m r : List UInt8} (h : 39 ∉ m) : wordP (39 :: (m ++ 39 :: r)) = (wordP r).on (m.length + 2) := by
  rw [word_ok (l := 39 :: (m ++ 39 :: r)) (show hasB specials 39 = false by decide) (by simp) (step_single h)]
  congr 2
  rw [List.drop_succ_cons, List.drop_append, List.drop_of_length_le (by omega)]
  rw [show m.length + 1 - m.length = 1 by omega]; rfl
/-- a text as octet.Quote makes it, between its quotes: gone over whole -/
theorem word_esc : ∀ (n : Nat) (s tail : List UInt8), s.length ≤ n → wordP (39 :: (escB s ++ 39 :: tail)) = (wordP tail).on ((escB s).length + 2) := by
  intro n
  induction n with
  | zero =>
    intro s tail h
    have : s = [] := List.eq_nil_of_length_eq_zero (by omega)
    subst this
    exact word_single (m := []) (by simp)
  | succ n ih =>
    intro s tail h
    by_cases hm : Lib.indexByte s 39 = -1
    · have hno := indexByte_none hm
      rw [escB_plain hno]
      exact word_single hno
    · have hge := Lib.indexByte_ge s 39
      obtain ⟨i, hi⟩ : ∃ i : Nat, Lib.indexByte s 39 = i := ⟨(Lib.indexByte s 39).toNat, by omega⟩
      obtain ⟨h1, h2, h3⟩ := indexByte_some hi
      have e : s = s.take i ++ 39 :: s.drop (i + 1) := by
        conv => lhs; rw [← List.take_append_drop i s, drop_nth 0 h1, h2]
      have e2 : escB s = s.take i ++ ([39, 92, 39, 39] ++ escB (s.drop (i + 1))) := by
        conv => lhs; rw [e]
        unfold escB
        rw [List.flatMap_append, List.flatMap_cons]
        have e4 : (s.take i).flatMap escC = s.take i := escB_plain h3
        rw [e4]; rfl
      rw [e2]
      have e3 : 39 :: ((s.take i ++ ([39, 92, 39, 39] ++ escB (s.drop (i + 1)))) ++ 39 :: tail) = 39 :: (s.take i ++ 39 :: (92 :: 39 :: (39 :: (escB (s.drop (i + 1)) ++ 39 :: tail)))) := by simp
      rw [e3, word_single h3, word_ok (l := 92 :: 39 :: _) (show hasB specials 92 = false by decide) (by simp) (step_esc 39 _)]
      show (((wordP (39 :: (escB (s.drop (i + 1)) ++ 39 :: tail))).on 2).on _) = _
      rw [ih (s.drop (i + 1)) tail (by rw [List.length_drop]; omega), SR.on_on, SR.on_on]
      congr 1
      simp only [List.length_append, List.length_cons, List.length_nil]
      omega
theorem plain_easy (c : UInt8) (h : plainC c = true) : easyB c = true := by
  revert c; exact u8_all (by decide +kernel)
theorem word_quote (s tail : List UInt8) : wordP (quoteB s ++ tail) = (wordP tail).on (quoteB s).length := by
  unfold quoteB
  split
  · rename_i h
    rw [Bool.and_eq_true] at h
    refine word_easy s tail ?_
    rw [List.all_eq_true] at *
    exact fun c hc => plain_easy c (h.2 c hc)
  · have := word_esc s.length s tail (Nat.le_refl _)
    have e : [39] ++ escB s ++ [39] ++ tail = 39 :: (escB s ++ 39 :: tail) := by simp
    rw [e, this]
    congr 1
    simp only [List.length_append, List.length_cons, List.length_nil]; omega
theorem tokL_fuel : ∀ (f g : Nat) (l : List UInt8), l.length < f → l.length < g → tokL f l = tokL g l
  | 0, _, l, h, _ => by omega
  | f + 1, 0, l, _, h => by omega
  | f + 1, g + 1, l, h1, h2 => by
    rw [tokL, tokL]
    split
    · rfl
    · rename_i hl
      split
      · rename_i hb
        have := blankN_le hl
        rw [tokL_fuel f g (l.drop (blankN l)) (by rw [List.length_drop]; omega) (by rw [List.length_drop]; omega)]
      · rfl
theorem tokP_blank {l : List UInt8} {n : Nat} (hl : l ≠ []) (hb : blankN l = n) (hn : n ≠ 0) : tokP l = (tokP (l.drop n)).on n := by
  have hle := blankN_le hl
  unfold tokP
  conv => lhs; rw [tokL]
  rw [if_neg hl, hb, if_pos hn, tokL_fuel l.length ((l.drop n).length + 1) (l.drop n) (by rw [List.length_drop]; omega) (by omega)]
theorem tokP_head {l : List UInt8} (hl : l ≠ []) (hb : blankN l = 0) : tokP l = headP l := by
  unfold tokP
  rw [tokL, if_neg hl, if_neg (by rw [hb]; simp)]
theorem blank_ws {c : UInt8} (h : c = 32 ∨ c = 9) (r : List UInt8) : blankN (c :: r) = 1 := by
  have h1 : stB (c :: r) [92, 10] = false := by
    unfold stB
    rw [decide_eq_false]
    intro e
    have := congrArg (fun l => nth l 0 0) e
    have h2 : c = 92 := by simpa [nth] using this
    rcases h with rfl | rfl <;> cases h2
  unfold blankN
  rw [h1, if_neg (by simp), if_pos (by rcases h with rfl | rfl <;> rfl)]
theorem tokP_ws {c : UInt8} (h : c = 32 ∨ c = 9) (r : List UInt8) : tokP (c :: r) = (tokP r).on 1 := tokP_blank (by simp) (blank_ws h r) (by decide)
/-- how a quoted text begins -/
theorem quote_head (s : List UInt8) : ∃ c r, quoteB s = c :: r ∧ (plainC c = true ∨ c = 39) := by
  unfold quoteB
  split
  · rename_i h
    rw [Bool.and_eq_true, decide_eq_true_eq, List.all_eq_true] at h
    cases s with
    | nil => exact absurd rfl h.1
    | cons c r => exact ⟨c, r, rfl, .inl (h.2 c List.mem_cons_self)⟩
  · exact ⟨39, escB s ++ [39], by simp, .inr rfl⟩
theorem head_word {c : UInt8} (h : plainC c = true ∨ c = 39) (r : List UInt8) : blankN (c :: r) = 0 ∧ headP (c :: r) = restP (c :: r) := by
  have key : ∀ c : UInt8, (plainC c = true ∨ c = 39) → c ≠ 92 ∧ c ≠ 32 ∧ c ≠ 9 ∧ c ≠ 35 ∧ c ≠ 10 ∧ hasB opFirst c = false := u8_all (by decide +kernel)
  obtain ⟨k1, k2, k3, k4, k5, k6⟩ := key c h
  have h1 : stB (c :: r) [92, 10] = false := by
    unfold stB
    rw [decide_eq_false]
    intro e
    have := congrArg (fun l => nth l 0 0) e
    exact k1 (by simpa [nth] using this)
  constructor
  · unfold blankN
    rw [h1, if_neg (by simp)]
    show (if (decide (c = 32) || decide (c = 9)) = true then 1 else if c = 35 then _ else 0) = 0
    rw [decide_eq_false k2, decide_eq_false k3, if_neg (by simp), if_neg k4]
  · unfold headP
    rw [if_neg (show ¬ nth (c :: r) 0 0 = 10 from k5), opP_no (show hasB opFirst (nth (c :: r) 0 0) = false from k6), if_neg (by simp)]
end Go.Tri

/-
  What a line is read as hangs on its own bytes alone.
-/
namespace Go.Tri
open Go.RowKit
end Go.Tri

/-
  What a whole line is read as hangs on its own bytes alone, its documents with it.
-/
namespace Go.Tri
open Go.RowKit
end Go.Tri
namespace Go.Tri
open Go.RowKit
end Go.Tri
namespace Go.Tri
open Go.RowKit
end Go.Tri

/-
  The tokens of a text: those of its lines, one behind the other.
-/
namespace Go.Tri
open Go.RowKit
theorem tokL_pos : ∀ (f : Nat) (l : List UInt8) (k : Nat), l ≠ [] → tokL (f + 1) l = .stop k → 1 ≤ k := fun f l k hl h => by
  rw [tokL, if_neg hl] at h
  split at h
  · cases hr : tokL f (l.drop (blankN l)) with
    | stop m => rw [hr] at h; cases h; omega
    | bad a e => rw [hr] at h; cases h
    | tok o m kd tx => rw [hr] at h; cases h
  · unfold headP at h
    split at h
    · cases h
    · split at h
      · cases h
      · unfold restP at h
        split at h
        · cases h
        · split at h <;> cases h
theorem lineL_pos (f p : Nat) (l : List UInt8) (ts : List Tok) (k : Nat) (hl : l ≠ []) (h : lineL (f + 1) p l = .ok ts k) : 1 ≤ k := by
  rw [lineL] at h
  have hfit := tokP_fit l
  cases ht : tokP l with
  | stop m => simp only [ht] at h; cases h; exact tokL_pos _ _ _ hl ht
  | bad a e => simp only [ht] at h; cases h
  | tok off m kind text =>
    rw [ht] at hfit
    have h1 : 1 ≤ m := hfit.1
    simp only [ht] at h
    split at h
    · cases h; exact h1
    · cases hr : lineL f (p + m) (l.drop m) with
      | bad a e => rw [hr] at h; cases h
      | ok ts' k' => rw [hr] at h; cases h; omega
theorem line_fin {s : List UInt8} {i : Nat} (hi : i ≤ s.length) (h : (lineP s i).err = 0) : i ≤ (lineP s i).fin ∧ (lineP s i).fin ≤ s.length ∧ (i < s.length → i < (lineP s i).fin) ∧ i + (lineP s i).toks.length ≤ (lineP s i).fin := by
  obtain ⟨_, _, _, ts, k, ds, j, e1, e2, e3⟩ := lineP_ok h
  rw [e3, Int.toNat_natCast] at *
  have h1 := lineL_st s _ i ts k hi e1
  have h2 := docsL_st s ts none i (i + k) ds j h1 e2
  have h3 := stand_len h2.1
  refine ⟨Nat.le_trans (Nat.le_add_right _ _) h2.2, h3.2, fun hlt => ?_, ?_⟩
  · have := lineL_pos _ _ _ _ _ (List.ne_nil_of_length_pos (by rw [List.length_drop]; omega)) e1
    show i < j
    omega
  · show i + ds.length ≤ j
    omega
end Go.Tri
