/-
  Tokens stand in the text where they say.
-/
import Derived.Test.YtomcodpgickmgaaGreatDoorPLex5
namespace Go.Tri
open Go.RowKit
theorem nth_drop_h (s : List UInt8) (i : Nat) : nth (s.drop i) 0 0 = nth s i 0 := by
  unfold nth; rw [List.getD_eq_getElem?_getD, List.getD_eq_getElem?_getD, List.getElem?_drop]; rfl
def gapB (s : List UInt8) (a b : Nat) : Prop := ∀ i, a ≤ i → i < b → (∃ k, a ≤ k ∧ k ≤ i ∧ nth s k 0 = 35) ∨ nth s i 0 = 9 ∨ nth s i 0 = 32 ∨ nth s i 0 = 92 ∨ nth s i 0 = 10
theorem gap_app {s : List UInt8} {a b c : Nat} (h1 : gapB s a b) (h2 : gapB s b c) (hab : a ≤ b) : gapB s a c := fun i hi hc => by
  by_cases h : i < b
  · exact h1 i hi h
  · rcases h2 i (by omega) hc with ⟨k, k1, k2, k3⟩ | h
    · exact .inl ⟨k, by omega, k2, k3⟩
    · exact .inr h
theorem gap_nil (s : List UInt8) (a : Nat) : gapB s a a := fun i h1 h2 => absurd h2 (by omega)
/-- of the token at j: so far it is gone over blanks; it is what stands there -/
def StT (s : List UInt8) (j : Nat) : TR → Prop
  | .tok off k kind text => k = off + text.length ∧ j + k ≤ s.length ∧ (s.drop (j + off)).take text.length = text ∧ text ≠ [] ∧ 1 ≤ kind ∧ kind ≤ 4 ∧ gapB s j (j + off)
  | .stop k => j + k ≤ s.length
  | .bad _ _ => True
theorem stB_take {l t : List UInt8} (h : stB l t = true) : l.take t.length = t := of_decide_eq_true h
theorem gap_blank {s : List UInt8} {j : Nat} (hj : j < s.length) : gapB s j (j + blankN (s.drop j)) := by
  intro i h1 h2
  unfold blankN at h2
  split at h2
  · rename_i h
    have ht := stB_take h
    have h2l := stB_len h
    rw [List.length_drop] at h2l
    replace h2l : 2 ≤ s.length - j := h2l
    have e0 : nth s j 0 = 92 := by
      have := congrArg (fun l => nth l 0 0) ht
      simpa [drop_nth 0 hj, nth] using this
    have e1 : nth s (j + 1) 0 = 10 := by
      have := congrArg (fun l => nth l 1 0) ht
      rw [drop_nth 0 hj, drop_nth 0 (show j + 1 < s.length by omega)] at this
      simpa [nth] using this
    rcases (show i = j ∨ i = j + 1 by omega) with rfl | rfl
    · exact .inr (.inr (.inr (.inl e0)))
    · exact .inr (.inr (.inr (.inr e1)))
  · split at h2
    · rename_i h
      obtain rfl : i = j := by omega
      rw [nth_drop_h, Bool.or_eq_true, decide_eq_true_eq, decide_eq_true_eq] at h
      rcases h with h | h
      · exact .inr (.inr (.inl h))
      · exact .inr (.inl h)
    · split at h2
      · rename_i h
        rw [nth_drop_h] at h
        exact .inl ⟨j, Nat.le_refl _, h1, h⟩
      · omega
theorem headP_st {s : List UInt8} {j : Nat} (hj : j < s.length) (hb : blankN (s.drop j) = 0) : StT s j (headP (s.drop j)) := by
  have hl : s.drop j ≠ [] := List.ne_nil_of_length_pos (by rw [List.length_drop]; omega)
  have hfit := headP_fit hl hb
  have hlen : (s.drop j).length = s.length - j := List.length_drop
  unfold headP at hfit ⊢
  split
  · rename_i h
    rw [nth_drop_h] at h
    refine ⟨rfl, by omega, ?_, by simp, by decide, by decide, gap_nil s j⟩
    rw [Nat.add_zero, drop_nth 0 hj, h]; rfl
  · split
    · rename_i h1 h2
      obtain ⟨h3, h4, h5⟩ := opN_len 3 (s.drop j)
      refine ⟨by omega, ?_, ?_, h2, by decide, by decide, gap_nil s j⟩
      · rw [hlen] at h3
        show j + (opN 3 (s.drop j)).length ≤ _
        omega
      · rw [Nat.add_zero]; exact h5.symm
    · rename_i h1 h2
      rw [if_neg h1, if_neg h2] at hfit
      unfold restP at hfit ⊢
      cases hw : wordP (s.drop j) with
      | bad a e => trivial
      | ok k =>
        simp only [hw] at hfit
        show StT s j (if 4096 < k then .bad 0 51 else _)
        split
        · trivial
        · rename_i h3
          rw [if_neg h3] at hfit
          have hk := wordP_fit hw
          have hk1 : 1 ≤ k := hfit.1
          have htl : ((s.drop j).take k).length = k := by rw [List.length_take]; omega
          refine ⟨by omega, by omega, by rw [Nat.add_zero, htl], ?_, by split <;> decide, by split <;> decide, gap_nil s j⟩
          exact List.ne_nil_of_length_pos (by omega)
theorem stT_on {s : List UInt8} {j n : Nat} {r : TR} (h : StT s (j + n) r) (hg : gapB s j (j + n)) : StT s j (r.on n) := by
  cases r with
  | stop k =>
    show j + (n + k) ≤ _
    have h2 : j + n + k ≤ s.length := h
    omega
  | bad a e => trivial
  | tok off k kind text =>
    obtain ⟨h1, h2, h3, h4, h5, h6, h7⟩ := h
    refine ⟨by omega, by omega, by rw [← Nat.add_assoc]; exact h3, h4, h5, h6, ?_⟩
    rw [← Nat.add_assoc]
    exact gap_app hg h7 (by omega)
theorem tokL_st (s : List UInt8) : ∀ (f j : Nat), j ≤ s.length → StT s j (tokL f (s.drop j))
  | 0, j, h => by show j + 0 ≤ _; omega
  | f + 1, j, h => by
    unfold tokL
    split
    · show j + 0 ≤ _; omega
    · rename_i hl
      have hj : j < s.length := by
        refine Classical.byContradiction fun hn => hl (List.drop_of_length_le (by omega))
      have hb := blankN_le hl
      rw [List.length_drop] at hb
      split
      · rw [List.drop_drop]
        exact stT_on (tokL_st s f (j + blankN (s.drop j)) (by omega)) (gap_blank hj)
      · rename_i h0
        exact headP_st hj (by simpa using h0)
def StandP (s : List UInt8) : Nat → List Tok → Nat → Prop
  | a, [], e => a ≤ e ∧ e ≤ s.length
  | a, t :: r, e => (a ≤ t.pos ∧ t.pos + t.text.length ≤ s.length ∧ (s.drop t.pos).take t.text.length = t.text ∧ t.text ≠ [] ∧ 1 ≤ t.kind ∧ t.kind ≤ 4 ∧ gapB s a t.pos) ∧ StandP s (t.pos + t.text.length) r e
theorem lineL_st (s : List UInt8) : ∀ (f j : Nat) (ts : List Tok) (k : Nat), j ≤ s.length → lineL f j (s.drop j) = .ok ts k → StandP s j ts (j + k)
  | 0, j, ts, k, h, h1 => by cases h1; exact ⟨by omega, by omega⟩
  | f + 1, j, ts, k, h, h1 => by
    rw [lineL] at h1
    have hst : StT s j (tokP (s.drop j)) := tokL_st s _ j h
    cases ht : tokP (s.drop j) with
    | stop m =>
      rw [ht] at hst
      simp only [ht] at h1
      cases h1
      exact ⟨by omega, hst⟩
    | bad a e => simp only [ht] at h1; cases h1
    | tok off m kind text =>
      rw [ht] at hst
      simp only [ht] at h1
      obtain ⟨s1, s2, s3, s4, s5, s6, s7⟩ := hst
      have hhead : (j ≤ j + off ∧ j + off + text.length ≤ s.length ∧ (s.drop (j + off)).take text.length = text ∧ text ≠ [] ∧ 1 ≤ kind ∧ kind ≤ 4 ∧ gapB s j (j + off)) := ⟨by omega, by omega, s3, s4, s5, s6, s7⟩
      split at h1
      · cases h1
        exact ⟨hhead, by show j + off + text.length ≤ _; omega, by omega⟩
      · cases hr : lineL f (j + m) ((s.drop j).drop m) with
        | bad a e => rw [hr] at h1; cases h1
        | ok ts' k' =>
          rw [hr] at h1
          cases h1
          rw [List.drop_drop] at hr
          have := lineL_st s f (j + m) ts' k' s2 hr
          refine ⟨hhead, ?_⟩
          rw [show j + off + text.length = j + m by omega, show j + (m + k') = j + m + k' by omega]
          exact this
theorem docL_le (strip : Bool) (d : List UInt8) : ∀ (f : Nat) (l : List UInt8) (x : List UInt8 × Nat), docL strip d f l = some x → x.2 ≤ l.length
  | 0, l, x, h => by cases h
  | f + 1, l, x, h => by
    rw [docL] at h
    split at h
    · cases h
    · split at h
      · cases h
        show min _ _ ≤ _
        omega
      · split at h
        · cases h
        · rename_i hb
          have hb' : hasB l 10 = true := by simpa using hb
          have hr := (remark_has (l := l)).1 hb'
          cases hd : docL strip d f (l.drop (remark l + 1)) with
          | none => rw [hd] at h; cases h
          | some y =>
            rw [hd] at h
            cases h
            have := docL_le strip d f _ y hd
            rw [List.length_drop] at this
            show remark l + 1 + y.2 ≤ _
            omega
theorem docsL_st (s : List UInt8) : ∀ (ts : List Tok) (prev : Option Tok) (a e : Nat) (ds : List Tok) (j : Nat), StandP s a ts e → docsL s prev ts e = .ok ds j → StandP s a ds j ∧ e ≤ j := by
  have key : ∀ (ts : List Tok) (prev : Option Tok) (a e0 e : Nat) (ds : List Tok) (j : Nat), e0 ≤ e → e ≤ s.length → StandP s a ts e0 → docsL s prev ts e = .ok ds j → StandP s a ds j ∧ e ≤ j := by
    intro ts
    induction ts with
    | nil =>
      intro prev a e0 e ds j h0 h1 h2 h3
      cases h3
      exact ⟨⟨Nat.le_trans h2.1 h0, h1⟩, Nat.le_refl _⟩
    | cons t r ih =>
      intro prev a e0 e ds j h0 h1 h2 h3
      rw [docsL] at h3
      split at h3
      · cases hd : docP (stripB prev) (bareP t.text) (s.drop e) with
        | none => simp only [hd] at h3; cases h3
        | some x =>
          simp only [hd] at h3
          have hx := docL_le _ _ _ _ _ hd
          rw [List.length_drop] at hx
          cases hr : docsL s (some t) r (e + x.2) with
          | bad p => rw [hr] at h3; cases h3
          | ok ds' j' =>
            rw [hr] at h3
            cases h3
            obtain ⟨k1, k2⟩ := ih (some t) _ e0 (e + x.2) ds' j (by omega) (by omega) h2.2 hr
            exact ⟨⟨h2.1, k1⟩, by omega⟩
      · cases hr : docsL s (some t) r e with
        | bad p => rw [hr] at h3; cases h3
        | ok ds' j' =>
          rw [hr] at h3
          cases h3
          obtain ⟨k1, k2⟩ := ih (some t) _ e0 e ds' j h0 h1 h2.2 hr
          exact ⟨⟨h2.1, k1⟩, k2⟩
  intro ts prev a e ds j h1 h2
  have he : e ≤ s.length := by
    clear h2
    induction ts generalizing a with
    | nil => exact h1.2
    | cons t r ih => exact ih _ h1.2
  exact key ts prev a e e ds j (Nat.le_refl _) he h1 h2
theorem lineL_faulty : ∀ (f p : Nat) (l : List UInt8) (a e : Nat), lineL f p l = .bad a e → e ≠ 0
  | 0, p, l, a, e, h => by cases h
  | f + 1, p, l, a, e, h => by
    rw [lineL] at h
    have hfit := tokP_fit l
    cases ht : tokP l with
    | stop k => simp only [ht] at h; cases h
    | bad a' e' =>
      rw [ht] at hfit
      simp only [ht] at h
      cases h; exact hfit
    | tok off k kind text =>
      simp only [ht] at h
      split at h
      · cases h
      · cases hr : lineL f (p + k) (l.drop k) with
        | bad a' e' =>
          rw [hr] at h
          cases h
          exact lineL_faulty f _ _ _ _ hr
        | ok ts j => rw [hr] at h; cases h
theorem lineP_ok {s : List UInt8} {i : Int} (h : (lineP s i).err = 0) : s.length ≤ 65536 ∧ 0 ≤ i ∧ i ≤ s.length ∧ ∃ ts k ds j, lineL (s.length + 1) i.toNat (s.drop i.toNat) = .ok ts k ∧ docsL s none ts (i.toNat + k) = .ok ds j ∧ lineP s i = ⟨ds, j, 0, 0⟩ := by
  unfold lineP at *
  split at h
  · cases h
  · rename_i h1
    rw [if_neg h1] at *
    split at h
    · cases h
    · rename_i h2
      rw [if_neg h2]
      refine ⟨by omega, by omega, by omega, ?_⟩
      unfold lineAt at *
      cases hl : lineL (s.length + 1) i.toNat (s.drop i.toNat) with
      | bad a e =>
        simp only [hl] at h
        exact absurd h (lineL_faulty _ _ _ _ _ hl)
      | ok ts k =>
        simp only [hl] at h ⊢
        cases hd : docsL s none ts (i.toNat + k) with
        | bad a => simp only [hd] at h; cases h
        | ok ds j => exact ⟨ts, k, ds, j, rfl, hd, rfl⟩
theorem stands {s : List UInt8} (h : (lineP s 0).err = 0) : StandP s 0 (lineP s 0).toks (lineP s 0).fin := by
  obtain ⟨_, _, _, ts, k, ds, j, h1, h2, h3⟩ := lineP_ok h
  rw [h3]
  have := lineL_st s _ 0 ts k (Nat.zero_le _) (by simpa using h1)
  simp only [Nat.zero_add] at this
  exact (docsL_st s ts none 0 k ds j this (by simpa using h2)).1
/-- the same, from the n-th token on -/
theorem StandP.at {s : List UInt8} {l : List Tok} {e : Nat} : ∀ {n a : Nat}, StandP s a (l.drop n) e → n < l.length → (a ≤ (nth l n tok0).pos ∧ (nth l n tok0).pos + (nth l n tok0).text.length ≤ s.length ∧ (s.drop (nth l n tok0).pos).take (nth l n tok0).text.length = (nth l n tok0).text ∧ (nth l n tok0).text ≠ [] ∧ 1 ≤ (nth l n tok0).kind ∧ (nth l n tok0).kind ≤ 4 ∧ gapB s a (nth l n tok0).pos) ∧ StandP s ((nth l n tok0).pos + (nth l n tok0).text.length) (l.drop (n + 1)) e := fun h hn => by
  rw [drop_nth tok0 hn] at h
  exact h
theorem stand_len {s : List UInt8} : ∀ {l : List Tok} {a e : Nat}, StandP s a l e → a + l.length ≤ e ∧ e ≤ s.length
  | [], a, e, h => ⟨by simpa using h.1, h.2⟩
  | t :: r, a, e, h => by
    obtain ⟨⟨h1, h2, h3, h4, _⟩, h5⟩ := h
    have := stand_len h5
    have hp := List.length_pos_iff.2 h4
    simp only [List.length_cons]
    omega
deriving instance DecidableEq for LineV
end Go.Tri

/-
  Quoted words one behind the other.
-/
namespace Go.Tri
open Go.RowKit
theorem contains_cons (b : UInt8) (l sub : List UInt8) : Lib.contains (b :: l) sub = (sub.isPrefixOf (b :: l) || Lib.contains l sub) := by
  unfold Lib.contains
  have hge := Lib.index_ge l sub
  rw [Lib.index]
  cases hp : sub.isPrefixOf (b :: l) with
  | true => simp
  | false =>
    rw [if_neg (by simp), Bool.false_or]
    split
    · rename_i h
      have : Lib.index l sub = -1 := by simpa using h
      rw [this]
    · rename_i h
      have h2 : ¬ Lib.index l sub = -1 := by simpa using h
      rw [decide_eq_true (by omega), decide_eq_true (by omega)]
end Go.Tri

/-
  What a line is read as hangs on its own bytes alone.
-/
namespace Go.Tri
open Go.RowKit
/-- a text that ends with its newline -/
def EndNL (u : List UInt8) : Prop := u ≠ [] ∧ nth u (u.length - 1) 0 = 10
/-- what is gone through within such a text does not hang on what stands behind it -/
def LocS (F : List UInt8 → SR) : Prop := ∀ u r b k, EndNL u → F (u ++ r) = .ok k → k ≤ u.length → F (u ++ b) = .ok k
theorem endNL_drop {u : List UInt8} (h : EndNL u) {k : Nat} (hk : k < u.length) : EndNL (u.drop k) := by
  refine ⟨List.ne_nil_of_length_pos (by rw [List.length_drop]; omega), ?_⟩
  rw [← h.2, List.length_drop]
  unfold nth
  rw [List.getD_eq_getElem?_getD, List.getD_eq_getElem?_getD, List.getElem?_drop]
  congr 2; omega
theorem stB_app {u t : List UInt8} (b : List UInt8) (h : t.length ≤ u.length) : stB (u ++ b) t = stB u t := by
  unfold stB
  rw [List.take_append_of_le_length h]
theorem index_in {u r : List UInt8} {c : UInt8} {i : Nat} (h : Lib.indexByte (u ++ r) c = (i : Int)) (hi : i < u.length) (b : List UInt8) : Lib.indexByte (u ++ b) c = (i : Int) := by
  induction u generalizing i with
  | nil => simp at hi
  | cons d u ih =>
    rw [List.cons_append, Lib.indexByte] at h ⊢
    have hge := Lib.indexByte_ge (u ++ r) c
    by_cases hd : (d == c) = true
    · rw [if_pos hd] at h ⊢; exact h
    · rw [if_neg hd] at h ⊢
      split at h
      · omega
      · rename_i h1
        have h2 : ¬ Lib.indexByte (u ++ r) c = -1 := by simpa using h1
        obtain ⟨j, rfl⟩ : ∃ j, i = j + 1 := ⟨i - 1, by omega⟩
        have := ih (i := j) (by omega) (by simpa using hi)
        rw [this, if_neg (by simp <;> omega)]
        omega
theorem single_loc : LocS singleP := fun u r b k hu h hk => by
  unfold singleP at h ⊢
  split at h
  · cases h
  · rename_i h1
    have hge := Lib.indexByte_ge ((u ++ r).drop 1) 39
    obtain ⟨i, hi⟩ : ∃ i : Nat, Lib.indexByte ((u ++ r).drop 1) 39 = i := ⟨(Lib.indexByte ((u ++ r).drop 1) 39).toNat, by omega⟩
    rw [hi] at h
    injection h with h
    have hp := List.length_pos_iff.2 hu.1
    rw [List.drop_append_of_le_length (by omega)] at hi
    have := index_in hi (by rw [List.length_drop]; omega) b
    rw [List.drop_append_of_le_length (by omega), this, if_neg (by omega), ← h]
theorem endNL_one {u : List UInt8} (h : EndNL u) (h1 : u.length = 1) : u = [10] := by
  cases u with
  | nil => cases h1
  | cons c r =>
    cases r with
    | nil =>
      have : c = 10 := h.2
      rw [this]
    | cons d q => simp at h1
theorem stB_two {u r : List UInt8} {c d : UInt8} (h : EndNL u) (hc : c ≠ 10) (b : List UInt8) : stB (u ++ r) [c, d] = stB (u ++ b) [c, d] := by
  by_cases hu : 2 ≤ u.length
  · rw [stB_app (t := [c, d]) r hu, stB_app (t := [c, d]) b hu]
  · have hp := List.length_pos_iff.2 h.1
    have := endNL_one h (by omega)
    subst this
    have key : ∀ x : List UInt8, stB ([10] ++ x) [c, d] = false := fun x => by
      unfold stB
      rw [decide_eq_false]
      intro e
      have := congrArg (fun l => nth l 0 0) e
      exact hc (by simpa [nth] using this.symm)
    rw [key, key]
theorem stB_onec {u r : List UInt8} {c : UInt8} (h : u ≠ []) (b : List UInt8) : stB (u ++ r) [c] = stB (u ++ b) [c] := by
  have hp := List.length_pos_iff.2 h
  rw [stB_app (t := [c]) r hp, stB_app (t := [c]) b hp]
theorem inside_loc {dlr : Bool → List UInt8 → SR} {q apo : Bool} (hd : ∀ q, LocS (dlr q)) : LocS (insideP dlr q apo) := fun u r b k hu h hk => by
  have hp := List.length_pos_iff.2 hu.1
  unfold insideP at h ⊢
  rw [stB_onec (c := 92) hu.1 b, stB_onec (c := 39) hu.1 b, stB_onec (c := 96) hu.1 b, stB_two (c := 36) (d := 40) hu (by decide) b, stB_two (c := 36) (d := 123) hu (by decide) b] at h
  split at h
  · rename_i h1
    rw [if_pos h1]
    injection h with h
    have h2 : 2 ≤ u.length := by
      rcases Nat.lt_or_ge u.length 2 with h2 | h2
      · have := endNL_one hu (by omega)
        subst this
        rw [show stB ([10] ++ b) [92] = false from stB_one 10 b 92] at h1
        cases h1
      · exact h2
    congr 1
    rw [List.length_append] at h ⊢
    omega
  · rename_i h1
    rw [if_neg h1]
    split at h
    · rename_i h2
      rw [if_pos h2]
      exact single_loc u r b k hu h hk
    · rename_i h2
      rw [if_neg h2]
      split at h
      · cases h
      · rename_i h3
        rw [if_neg h3]
        split at h
        · rename_i h4
          rw [if_pos h4]
          exact hd q u r b k hu h hk
        · rename_i h4
          rw [if_neg h4]
          injection h with h
          congr 1
          rw [List.length_append] at h ⊢
          omega
theorem nth_app {u r : List UInt8} {i : Nat} (h : i < u.length) : nth (u ++ r) i 0 = nth u i 0 := by
  unfold nth; rw [List.getD_eq_getElem?_getD, List.getD_eq_getElem?_getD, List.getElem?_append_left h]
theorem on_ok {r : LR} {j k : Nat} (h : r.on j = .ok k) : ∃ m, r = .ok m ∧ k = j + m := by
  cases r with
  | ok m => injection h with h; exact ⟨m, rfl, h.symm⟩
  | bad a e => cases h
  | out => cases h
theorem close_ok {r : LR} {j e k : Nat} (h : r.close j e = .ok k) : ∃ m, r = .ok m ∧ k = j + m := by
  cases r with
  | ok m => injection h with h; exact ⟨m, rfl, h.symm⟩
  | bad a e => cases h
  | out => cases h
theorem dblL_loc {dlr : Bool → List UInt8 → SR} (hd : ∀ q, LocS (dlr q)) (hf : ∀ q l, 2 ≤ l.length → Fit l (dlr q l)) : ∀ (f g : Nat) (u r b : List UInt8) (k : Nat), EndNL u → u.length ≤ g → dblL dlr f (u ++ r) = .ok k → k ≤ u.length → dblL dlr g (u ++ b) = .ok k
  | 0, g, u, r, b, k, _, _, h, _ => by cases h
  | f + 1, g, u, r, b, k, hu, hg, h, hk => by
    have hp := List.length_pos_iff.2 hu.1
    obtain ⟨g, rfl⟩ : ∃ n, g = n + 1 := ⟨g - 1, by omega⟩
    have hne : u ++ r ≠ [] := fun e => hu.1 (List.append_eq_nil_iff.1 e).1
    have hne2 : u ++ b ≠ [] := fun e => hu.1 (List.append_eq_nil_iff.1 e).1
    rw [dblL, if_neg hne, stB_onec (c := 34) hu.1 b] at h
    rw [dblL, if_neg hne2]
    split at h
    · rename_i h1
      rw [if_pos h1]; exact h
    · rename_i h1
      rw [if_neg h1]
      have hfit := insideP_fit (q := true) (apo := false) hf hne
      cases hi : insideP dlr true false (u ++ r) with
      | bad a e => simp only [hi] at h; cases h
      | ok j =>
        simp only [hi] at h
        rw [hi] at hfit
        obtain ⟨m, hm, rfl⟩ := on_ok h
        have hm1 : FitL ((u ++ r).drop j) (.ok m) := by rw [← hm]; exact dblL_fit hf f _
        have hm2 : 1 ≤ m := hm1.1
        rw [inside_loc hd u r b j hu hi (by omega)]
        rw [List.drop_append_of_le_length (by omega)] at hm
        show (dblL dlr g ((u ++ b).drop j)).on j = _
        have hj1 : 1 ≤ j := hfit.1
        rw [List.drop_append_of_le_length (by omega), dblL_loc hd hf f g (u.drop j) r b m (endNL_drop hu (by omega)) (by rw [List.length_drop]; omega) hm (by rw [List.length_drop]; omega)]
        rfl
theorem dlrL_loc {dbl : List UInt8 → SR} {dlr : Bool → List UInt8 → SR} {br q : Bool} (hb : LocS dbl) (hbf : ∀ l, l ≠ [] → Fit l (dbl l)) (hd : ∀ q, LocS (dlr q)) (hf : ∀ q l, 2 ≤ l.length → Fit l (dlr q l)) :
    ∀ (f g o : Nat) (u r b : List UInt8) (k : Nat), EndNL u → u.length ≤ g → dlrL dbl dlr br q f o (u ++ r) = .ok k → k ≤ u.length → dlrL dbl dlr br q g o (u ++ b) = .ok k
  | 0, g, o, u, r, b, k, _, _, h, _ => by cases h
  | f + 1, g, o, u, r, b, k, hu, hg, h, hk => by
    have hp := List.length_pos_iff.2 hu.1
    obtain ⟨g, rfl⟩ : ∃ n, g = n + 1 := ⟨g - 1, by omega⟩
    have hne : u ++ r ≠ [] := fun e => hu.1 (List.append_eq_nil_iff.1 e).1
    have hne2 : u ++ b ≠ [] := fun e => hu.1 (List.append_eq_nil_iff.1 e).1
    rw [dlrL, if_neg hne, nth_app hp] at h
    rw [dlrL, if_neg hne2, nth_app hp]
    split at h
    · rename_i h1
      rw [if_pos h1]
      have hfit := hbf _ hne
      cases hi : dbl (u ++ r) with
      | bad a e => simp only [hi] at h; cases h
      | ok j =>
        simp only [hi] at h
        rw [hi] at hfit
        obtain ⟨m, hm, rfl⟩ := on_ok h
        have hm1 : FitL ((u ++ r).drop j) (.ok m) := by rw [← hm]; exact dlrL_fit hbf hf f _ _
        have hm2 : 1 ≤ m := hm1.1
        rw [hb u r b j hu hi (by omega)]
        rw [List.drop_append_of_le_length (by omega)] at hm
        show (dlrL dbl dlr br q g o ((u ++ b).drop j)).on j = _
        have hj1 : 1 ≤ j := hfit.1
        rw [List.drop_append_of_le_length (by omega), dlrL_loc hb hbf hd hf f g o (u.drop j) r b m (endNL_drop hu (by omega)) (by rw [List.length_drop]; omega) hm (by rw [List.length_drop]; omega)]
        rfl
    · rename_i h1
      rw [if_neg h1]
      split at h
      · rename_i h2
        rw [if_pos h2]; exact h
      · rename_i h2
        rw [if_neg h2]
        have hfit := insideP_fit (q := q) (apo := !q) hf hne
        cases hi : insideP dlr q (!q) (u ++ r) with
        | bad a e => simp only [hi] at h; cases h
        | ok j =>
          simp only [hi] at h
          rw [hi] at hfit
          obtain ⟨m, hm, rfl⟩ := on_ok h
          have hm1 : FitL ((u ++ r).drop j) (.ok m) := by rw [← hm]; exact dlrL_fit hbf hf f _ _
          have hm2 : 1 ≤ m := hm1.1
          rw [inside_loc hd u r b j hu hi (by omega)]
          rw [List.drop_append_of_le_length (by omega)] at hm
          show (dlrL dbl dlr br q g (opens br o (nth u 0 0)) ((u ++ b).drop j)).on j = _
          have hj1 : 1 ≤ j := hfit.1
          rw [List.drop_append_of_le_length (by omega), dlrL_loc hb hbf hd hf f g _ (u.drop j) r b m (endNL_drop hu (by omega)) (by rw [List.length_drop]; omega) hm (by rw [List.length_drop]; omega)]
          rfl
theorem lv_loc : ∀ n, LocS (lv n).1 ∧ ∀ q, LocS ((lv n).2 q)
  | 0 => ⟨(fun u r b k _ h _ => by cases h), (fun q u r b k _ h _ => by cases h)⟩
  | n + 1 => by
    obtain ⟨h1, h2⟩ := lv_loc n
    obtain ⟨f1, f2⟩ := lv_fit n
    refine ⟨fun u r b k hu h hk => ?_, fun q u r b k hu h hk => ?_⟩
    · have hp := List.length_pos_iff.2 hu.1
      obtain ⟨m, hm, rfl⟩ := close_ok (show (dblL (lv n).2 (u ++ r).length ((u ++ r).drop 1)).close 1 53 = .ok k from h)
      have hm1 : FitL ((u ++ r).drop 1) (.ok m) := by rw [← hm]; exact dblL_fit f2 _ _
      have hm2 : 1 ≤ m := hm1.1
      rw [List.drop_append_of_le_length (by omega)] at hm
      show (dblL (lv n).2 (u ++ b).length ((u ++ b).drop 1)).close 1 53 = _
      rw [List.drop_append_of_le_length (by omega), dblL_loc h2 f2 _ (u ++ b).length (u.drop 1) r b m (endNL_drop hu (by omega)) (by rw [List.length_drop, List.length_append]; omega) hm (by rw [List.length_drop]; omega)]
      rfl
    · obtain ⟨m, hm, rfl⟩ := close_ok (show (dlrL (lv n).1 (lv n).2 (braceB (u ++ r)) (q && braceB (u ++ r)) (u ++ r).length 0 ((u ++ r).drop 2)).close 2 53 = .ok k from h)
      have hm1 : FitL ((u ++ r).drop 2) (.ok m) := by rw [← hm]; exact dlrL_fit f1 f2 _ _ _
      have hm2 : 1 ≤ m := hm1.1
      have hbr : ∀ x, braceB (u ++ x) = braceB u := fun x => by unfold braceB; rw [nth_app (by omega)]
      rw [hbr, List.drop_append_of_le_length (by omega)] at hm
      show (dlrL (lv n).1 (lv n).2 (braceB (u ++ b)) (q && braceB (u ++ b)) (u ++ b).length 0 ((u ++ b).drop 2)).close 2 53 = _
      rw [hbr, List.drop_append_of_le_length (by omega), dlrL_loc h1 f1 h2 f2 _ (u ++ b).length 0 (u.drop 2) r b m (endNL_drop hu (by omega)) (by rw [List.length_drop, List.length_append]; omega) hm (by rw [List.length_drop]; omega)]
      rfl
theorem wordStep_loc : LocS wordStep := fun u r b k hu h hk => by
  unfold wordStep at h ⊢
  rw [stB_onec (c := 34) hu.1 b] at h
  split at h
  · rename_i h1
    rw [if_pos h1]; exact (lv_loc 24).1 u r b k hu h hk
  · rename_i h1
    rw [if_neg h1]; exact inside_loc (lv_loc 24).2 u r b k hu h hk
theorem on_okS {r : SR} {j k : Nat} (h : r.on j = .ok k) : ∃ m, r = .ok m ∧ k = j + m := by
  cases r with
  | ok m => injection h with h; exact ⟨m, rfl, h.symm⟩
  | bad a e => cases h
/-- a word that ends ahead of the newline -/
theorem wordL_loc : ∀ (f g : Nat) (u r b : List UInt8) (k : Nat), EndNL u → u.length ≤ g → wordL f (u ++ r) = .ok k → k < u.length → (u ++ r).length ≤ f → wordL g (u ++ b) = .ok k
  | 0, g, u, r, b, k, hu, _, _, _, hf => by
    have hp := List.length_pos_iff.2 hu.1
    rw [List.length_append] at hf; omega
  | f + 1, g, u, r, b, k, hu, hg, h, hk, hf => by
    have hp := List.length_pos_iff.2 hu.1
    obtain ⟨g, rfl⟩ : ∃ n, g = n + 1 := ⟨g - 1, by omega⟩
    have hne : u ++ r ≠ [] := fun e => hu.1 (List.append_eq_nil_iff.1 e).1
    have hne2 : u ++ b ≠ [] := fun e => hu.1 (List.append_eq_nil_iff.1 e).1
    rw [wordL, if_neg hne, nth_app hp] at h
    rw [wordL, if_neg hne2, nth_app hp]
    split at h
    · rename_i h1
      rw [if_pos h1]; exact h
    · rename_i h1
      rw [if_neg h1]
      have hfit := wordStep_fit hne
      cases hi : wordStep (u ++ r) with
      | bad a e => simp only [hi] at h; cases h
      | ok j =>
        simp only [hi] at h
        rw [hi] at hfit
        obtain ⟨m, hm, rfl⟩ := on_okS h
        rw [wordStep_loc u r b j hu hi (by omega)]
        rw [List.drop_append_of_le_length (by omega)] at hm
        show (wordL g ((u ++ b).drop j)).on j = _
        have hj1 : 1 ≤ j := hfit.1
        rw [List.length_append] at hf
        rw [List.drop_append_of_le_length (by omega), wordL_loc f g (u.drop j) r b m (endNL_drop hu (by omega)) (by rw [List.length_drop]; omega) hm (by rw [List.length_drop]; omega) (by rw [List.length_append, List.length_drop]; omega)]
        rfl
theorem wordP_loc {u r b : List UInt8} {k : Nat} (hu : EndNL u) (h : wordP (u ++ r) = .ok k) (hk : k < u.length) : wordP (u ++ b) = .ok k :=
  wordL_loc _ _ u r b k hu (by rw [List.length_append]; omega) h hk (Nat.le_refl _)
theorem contains_mem {sub : List UInt8} {c : UInt8} (hc : c ∈ sub) : ∀ s : List UInt8, Lib.contains s sub = true → c ∈ s
  | [], h => by
    unfold Lib.contains Lib.index at h
    cases sub with
    | nil => cases hc
    | cons d q => simp at h
  | d :: s, h => by
    rw [contains_cons, Bool.or_eq_true] at h
    rcases h with h | h
    · rw [List.isPrefixOf_iff_prefix] at h
      exact h.subset hc
    · exact List.mem_cons_of_mem _ (contains_mem hc s h)
theorem op_nl {t : List UInt8} (h : 10 ∈ t) : isOp t = false := by
  unfold isOp
  cases hx : Lib.contains opsS ([32] ++ t ++ [32]) with
  | false => rfl
  | true => exact absurd (contains_mem (c := 10) (by simp [h]) opsS hx) (by decide)
theorem opAt_loc {u : List UInt8} (hu : EndNL u) (r b : List UInt8) (n : Nat) : opAt (u ++ r) n = opAt (u ++ b) n := by
  by_cases hn : n ≤ u.length
  · unfold opAt
    rw [List.take_append_of_le_length hn, List.take_append_of_le_length hn]
  · have hp := List.length_pos_iff.2 hu.1
    have key : ∀ x : List UInt8, opAt (u ++ x) n = false := fun x => by
      have hm : 10 ∈ (u ++ x).take n := by
        rw [List.take_append, List.take_of_length_le (by omega)]
        refine List.mem_append_left _ ?_
        rw [← hu.2]; exact nth_mem (by omega)
      unfold opAt
      rw [op_nl hm, Bool.and_false]
    rw [key, key]
theorem opP_loc {u : List UInt8} (hu : EndNL u) (r b : List UInt8) : opP (u ++ r) = opP (u ++ b) := by
  have key : ∀ n, opN n (u ++ r) = opN n (u ++ b) := fun n => by
    induction n with
    | zero => rfl
    | succ n ih =>
      rw [opN, opN, opAt_loc hu r b, ih]
      split
      · rename_i h
        have hn : n + 1 ≤ u.length := by
          refine Classical.byContradiction fun hn => ?_
          have hp := List.length_pos_iff.2 hu.1
          have hm : 10 ∈ (u ++ b).take (n + 1) := by
            rw [List.take_append, List.take_of_length_le (by omega)]
            refine List.mem_append_left _ ?_
            rw [← hu.2]; exact nth_mem (by omega)
          unfold opAt at h
          rw [op_nl hm, Bool.and_false] at h; cases h
        rw [List.take_append_of_le_length hn, List.take_append_of_le_length hn]
      · rfl
  exact key 3
theorem index_nl {u : List UInt8} (hu : EndNL u) (r : List UInt8) : ∃ i : Nat, Lib.indexByte (u ++ r) 10 = (i : Int) ∧ i < u.length := by
  have hp := List.length_pos_iff.2 hu.1
  have hm : 10 ∈ u := by rw [← hu.2]; exact nth_mem (by omega)
  have hge := Lib.indexByte_ge u 10
  have hne : ¬ Lib.indexByte u 10 = -1 := fun e => indexByte_none e hm
  obtain ⟨i, hi⟩ : ∃ i : Nat, Lib.indexByte u 10 = i := ⟨(Lib.indexByte u 10).toNat, by omega⟩
  have h1 := (indexByte_some hi).1
  refine ⟨i, ?_, h1⟩
  have := index_in (u := u) (r := []) (c := 10) (i := i) (by rw [List.append_nil]; exact hi) h1 r
  exact this
theorem remark_loc {u : List UInt8} (hu : EndNL u) (r b : List UInt8) : remark (u ++ r) = remark (u ++ b) := by
  obtain ⟨i, hi, hl⟩ := index_nl hu r
  have := index_in hi hl b
  unfold remark
  rw [hi, this, if_pos (by omega), if_pos (by omega)]
theorem blankN_loc {u : List UInt8} (hu : EndNL u) (r b : List UInt8) : blankN (u ++ r) = blankN (u ++ b) := by
  have hp := List.length_pos_iff.2 hu.1
  unfold blankN
  rw [stB_two (c := 92) (d := 10) hu (by decide) b, nth_app hp, nth_app hp, remark_loc hu r b]
theorem headP_loc {u : List UInt8} (hu : EndNL u) (r b : List UInt8) {off k kind : Nat} {text : List UInt8} (h : headP (u ++ r) = .tok off k kind text) (hk : k < u.length ∨ kind = 3) : headP (u ++ b) = .tok off k kind text := by
  have hp := List.length_pos_iff.2 hu.1
  unfold headP at h ⊢
  rw [nth_app hp, opP_loc hu r b] at h
  rw [nth_app hp]
  split at h
  · rename_i h1; rw [if_pos h1]; exact h
  · rename_i h1
    rw [if_neg h1]
    split at h
    · rename_i h2; rw [if_pos h2]; exact h
    · rename_i h2
      rw [if_neg h2]
      unfold restP at h ⊢
      cases hw : wordP (u ++ r) with
      | bad a e => simp only [hw] at h; cases h
      | ok m =>
        simp only [hw] at h
        split at h
        · cases h
        · rename_i h3
          injection h with e1 e2 e3 e4
          subst e1; subst e2
          have hm : m < u.length := by
            rcases hk with hk | hk
            · exact hk
            · exfalso
              rw [hk] at e3
              split at e3 <;> cases e3
          rw [wordP_loc (b := b) hu hw hm]
          show (if 4096 < m then _ else _ : TR) = _
          rw [if_neg h3]
          have hnum : numberB (u ++ r) m = numberB (u ++ b) m := by
            unfold numberB
            have hd : u.drop m ≠ [] := List.ne_nil_of_length_pos (by rw [List.length_drop]; omega)
            rw [List.take_append_of_le_length (by omega), List.take_append_of_le_length (by omega), List.drop_append_of_le_length (by omega), List.drop_append_of_le_length (by omega), stB_onec (c := 60) hd b, stB_onec (c := 62) hd b]
          rw [← hnum, e3, ← e4, List.take_append_of_le_length (by omega), List.take_append_of_le_length (by omega)]
theorem on_tok {r : TR} {n off k kind : Nat} {text : List UInt8} (h : r.on n = .tok off k kind text) : ∃ o m, r = .tok o m kind text ∧ off = n + o ∧ k = n + m := by
  cases r with
  | tok o m kd tx => injection h with h1 h2 h3 h4; subst h3; subst h4; exact ⟨o, m, rfl, h1.symm, h2.symm⟩
  | stop _ => cases h
  | bad _ _ => cases h
theorem tokL_loc : ∀ (f g : Nat) (u r b : List UInt8) (off k kind : Nat) (text : List UInt8), EndNL u → tokL f (u ++ r) = .tok off k kind text → (k < u.length ∨ (kind = 3 ∧ k ≤ u.length)) → u.length < g → tokL g (u ++ b) = .tok off k kind text
  | 0, g, u, r, b, off, k, kind, text, _, h, _, _ => by cases h
  | f + 1, g, u, r, b, off, k, kind, text, hu, h, hk, hg => by
    have hp := List.length_pos_iff.2 hu.1
    obtain ⟨g, rfl⟩ : ∃ n, g = n + 1 := ⟨g - 1, by omega⟩
    have hne : u ++ r ≠ [] := fun e => hu.1 (List.append_eq_nil_iff.1 e).1
    have hne2 : u ++ b ≠ [] := fun e => hu.1 (List.append_eq_nil_iff.1 e).1
    rw [tokL, if_neg hne, blankN_loc hu r b] at h
    rw [tokL, if_neg hne2]
    split at h
    · rename_i h1
      rw [if_pos h1]
      obtain ⟨o, m, hm, rfl, rfl⟩ := on_tok h
      have hm1 : FitT ((u ++ r).drop (blankN (u ++ b))) (.tok o m kind text) := by rw [← hm]; exact tokL_fit _ _
      have hm2 : 1 ≤ m := hm1.1
      rw [List.drop_append_of_le_length (by omega)] at hm
      rw [List.drop_append_of_le_length (by omega), tokL_loc f g (u.drop (blankN (u ++ b))) r b o m kind text (endNL_drop hu (by omega)) hm (by rw [List.length_drop]; omega) (by rw [List.length_drop]; omega)]
      rfl
    · rename_i h1
      rw [if_neg h1]
      exact headP_loc hu r b h (by omega)
theorem tokP_loc {u r b : List UInt8} {off k kind : Nat} {text : List UInt8} (hu : EndNL u) (h : tokP (u ++ r) = .tok off k kind text) (hk : k < u.length ∨ (kind = 3 ∧ k ≤ u.length)) : tokP (u ++ b) = .tok off k kind text :=
  tokL_loc _ _ u r b off k kind text hu h hk (by rw [List.length_append]; omega)
def shiftT (c : Nat) (t : Tok) : Tok := { t with pos := t.pos + c }
/-- a line whose last token is its newline, further on and with other bytes behind it -/
theorem lineL_loc : ∀ (f g p c : Nat) (u r b : List UInt8) (ts : List Tok) (k : Nat), EndNL u → u.length < g → lineL f p (u ++ r) = .ok ts k → ts ≠ [] → (nth ts (ts.length - 1) tok0).kind = 3 → k = u.length → lineL g (p + c) (u ++ b) = .ok (ts.map (shiftT c)) k
  | 0, g, p, c, u, r, b, ts, k, _, _, h, hn, _, _ => by cases h; exact absurd rfl hn
  | f + 1, g, p, c, u, r, b, ts, k, hu, hg, h, hn, h3, hk => by
    obtain ⟨g, rfl⟩ : ∃ n, g = n + 1 := ⟨g - 1, by omega⟩
    rw [lineL] at h
    have hfit := tokP_fit (u ++ r)
    cases ht : tokP (u ++ r) with
    | stop m => simp only [ht] at h; cases h; exact absurd rfl hn
    | bad a e => simp only [ht] at h; cases h
    | tok off m kind text =>
      rw [ht] at hfit
      simp only [ht] at h
      split at h
      · rename_i h1
        cases h
        rw [lineL, tokP_loc (b := b) hu ht (.inr ⟨h1, by omega⟩)]
        show (if kind = 3 then _ else _ : LnR) = _
        rw [if_pos h1]
        simp only [List.map_cons, List.map_nil, shiftT]
        congr 3; omega
      · rename_i h1
        cases hr : lineL f (p + m) ((u ++ r).drop m) with
        | bad a e => rw [hr] at h; cases h
        | ok ts' k' =>
          rw [hr] at h
          injection h with e1 e2
          subst e1
          cases ts' with
          | nil => exact absurd h3 h1
          | cons t2 q =>
            have hk' : 1 ≤ k' := by
              cases f with
              | zero => cases hr
              | succ f =>
                rw [lineL] at hr
                have hfit2 := tokP_fit ((u ++ r).drop m)
                cases ht2 : tokP ((u ++ r).drop m) with
                | stop _ => simp only [ht2] at hr; cases hr
                | bad _ _ => simp only [ht2] at hr; cases hr
                | tok o2 m2 kd2 tx2 =>
                  rw [ht2] at hfit2
                  have h9 : 1 ≤ m2 := hfit2.1
                  simp only [ht2] at hr
                  split at hr
                  · cases hr; exact h9
                  · cases hr2 : lineL f (p + m + m2) (((u ++ r).drop m).drop m2) with
                    | bad _ _ => rw [hr2] at hr; cases hr
                    | ok _ _ => rw [hr2] at hr; injection hr with _ e5; omega
            have hm : m < u.length := by omega
            rw [List.drop_append_of_le_length (by omega)] at hr
            have ih := lineL_loc f g (p + m) c (u.drop m) r b (t2 :: q) k' (endNL_drop hu hm) (by have := hfit.1; rw [List.length_drop]; omega) hr (by simp) (by simpa [nth] using h3) (by rw [List.length_drop]; omega)
            rw [lineL, tokP_loc (b := b) hu ht (.inl hm)]
            show (if kind = 3 then _ else _ : LnR) = _
            rw [if_neg h1, List.drop_append_of_le_length (by omega), show p + c + m = p + m + c by omega, ih, ← e2]
            simp only [LnR.app, List.map_append, List.map_cons, List.map_nil, shiftT]
            congr 4; omega
theorem docL_pos (strip : Bool) (d : List UInt8) : ∀ (f : Nat) (l : List UInt8) (x : List UInt8 × Nat), docL strip d f l = some x → 1 ≤ x.2
  | 0, l, x, h => by cases h
  | f + 1, l, x, h => by
    rw [docL] at h
    split at h
    · cases h
    · rename_i hl
      have hp := List.length_pos_iff.2 hl
      split at h
      · cases h
        show 1 ≤ min _ _
        omega
      · split at h
        · cases h
        · cases hd : docL strip d f (l.drop (remark l + 1)) with
          | none => rw [hd] at h; cases h
          | some y => rw [hd] at h; cases h; show 1 ≤ remark l + 1 + y.2; omega
theorem docL_loc (strip : Bool) (d : List UInt8) : ∀ (f g : Nat) (u r b : List UInt8) (x : List UInt8 × Nat), EndNL u → u.length ≤ g → docL strip d f (u ++ r) = some x → x.2 ≤ u.length → docL strip d g (u ++ b) = some x
  | 0, g, u, r, b, x, _, _, h, _ => by cases h
  | f + 1, g, u, r, b, x, hu, hg, h, hk => by
    have hp := List.length_pos_iff.2 hu.1
    obtain ⟨g, rfl⟩ : ∃ n, g = n + 1 := ⟨g - 1, by omega⟩
    have hne : u ++ r ≠ [] := fun e => hu.1 (List.append_eq_nil_iff.1 e).1
    have hne2 : u ++ b ≠ [] := fun e => hu.1 (List.append_eq_nil_iff.1 e).1
    have hrm : ∀ y, remark (u ++ y) = remark (u ++ r) ∧ remark (u ++ r) < u.length ∧ hasB (u ++ y) 10 = true := fun y => by
      obtain ⟨i, hi, hl⟩ := index_nl hu r
      refine ⟨remark_loc hu y r, ?_, ?_⟩
      · unfold remark; rw [hi, if_pos (by omega)]; omega
      · obtain ⟨i2, hi2, _⟩ := index_nl hu y
        rw [← indexByte_has, hi2]; exact decide_eq_true (by omega)
    obtain ⟨e1, e2, e3⟩ := hrm b
    obtain ⟨_, _, e4⟩ := hrm r
    have edl : docLine strip (u ++ b) = docLine strip (u ++ r) := by
      unfold docLine
      rw [e1, List.take_append_of_le_length (by omega), List.take_append_of_le_length (by omega)]
    rw [docL, if_neg hne] at h
    rw [docL, if_neg hne2, edl, e1]
    split at h
    · rename_i h1
      rw [if_pos h1]
      cases h
      congr 2
      rw [List.length_append, List.length_append]; omega
    · rename_i h1
      rw [if_neg h1, if_neg (by rw [e3]; simp)]
      rw [if_neg (by rw [e4]; simp)] at h
      cases hd : docL strip d f ((u ++ r).drop (remark (u ++ r) + 1)) with
      | none => rw [hd] at h; cases h
      | some y =>
        rw [hd] at h
        cases h
        have hy := docL_pos _ _ _ _ _ hd
        have hk' : remark (u ++ r) + 1 + y.2 ≤ u.length := hk
        rw [List.drop_append_of_le_length (by omega)] at hd
        rw [List.drop_append_of_le_length (by omega), docL_loc strip d f g (u.drop (remark (u ++ r) + 1)) r b y (endNL_drop hu (by omega)) (by rw [List.length_drop]; omega) hd (by rw [List.length_drop]; omega)]
        rfl
end Go.Tri

/-
  What a whole line is read as hangs on its own bytes alone, its documents with it.
-/
namespace Go.Tri
open Go.RowKit
theorem headP_nl {l text : List UInt8} {off k : Nat} (h : headP l = .tok off k 3 text) : off = 0 ∧ k = 1 ∧ nth l 0 0 = 10 := by
  unfold headP at h
  split at h
  · rename_i h1
    cases h; exact ⟨rfl, rfl, h1⟩
  · split at h
    · cases h
    · unfold restP at h
      split at h
      · cases h
      · split at h
        · cases h
        · injection h with _ _ e3 _
          split at e3 <;> cases e3
theorem tokL_nl : ∀ (f : Nat) (l text : List UInt8) (off k : Nat), tokL f l = .tok off k 3 text → 1 ≤ k ∧ nth l (k - 1) 0 = 10
  | 0, l, text, off, k, h => by cases h
  | f + 1, l, text, off, k, h => by
    rw [tokL] at h
    split at h
    · cases h
    · split at h
      · obtain ⟨o, m, hm, _, rfl⟩ := on_tok h
        obtain ⟨h1, h2⟩ := tokL_nl f _ text o m hm
        refine ⟨by omega, ?_⟩
        rw [show blankN l + m - 1 = blankN l + (m - 1) by omega, ← h2]
        unfold nth
        rw [List.getD_eq_getElem?_getD, List.getD_eq_getElem?_getD, List.getElem?_drop]
      · obtain ⟨rfl, rfl, h3⟩ := headP_nl h
        exact ⟨Nat.le_refl _, h3⟩
theorem lineL_nl : ∀ (f p : Nat) (l : List UInt8) (ts : List Tok) (k : Nat), lineL f p l = .ok ts k → ts ≠ [] → (nth ts (ts.length - 1) tok0).kind = 3 → 1 ≤ k ∧ nth l (k - 1) 0 = 10
  | 0, p, l, ts, k, h, hn, _ => by cases h; exact absurd rfl hn
  | f + 1, p, l, ts, k, h, hn, h3 => by
    rw [lineL] at h
    cases ht : tokP l with
    | stop m => simp only [ht] at h; cases h; exact absurd rfl hn
    | bad a e => simp only [ht] at h; cases h
    | tok off m kind text =>
      simp only [ht] at h
      split at h
      · rename_i h1
        cases h
        rw [h1] at ht
        exact tokL_nl _ _ _ _ _ ht
      · rename_i h1
        cases hr : lineL f (p + m) (l.drop m) with
        | bad a e => rw [hr] at h; cases h
        | ok ts' k' =>
          rw [hr] at h
          injection h with e1 e2
          subst e1
          cases ts' with
          | nil => exact absurd h3 h1
          | cons t2 q =>
            obtain ⟨h4, h5⟩ := lineL_nl f _ _ _ _ hr (by simp) (by simpa [nth] using h3)
            refine ⟨by omega, ?_⟩
            rw [show k - 1 = m + (k' - 1) by omega, ← h5]
            unfold nth
            rw [List.getD_eq_getElem?_getD, List.getD_eq_getElem?_getD, List.getElem?_drop]
theorem docsL_le (s : List UInt8) : ∀ (ts : List Tok) (prev : Option Tok) (j : Nat) (ds : List Tok) (k : Nat), docsL s prev ts j = .ok ds k → j ≤ k ∧ ds.length = ts.length ∧ ∀ i, (nth ds i tok0).kind = (nth ts i tok0).kind
  | [], prev, j, ds, k, h => by cases h; exact ⟨Nat.le_refl _, rfl, fun _ => rfl⟩
  | t :: r, prev, j, ds, k, h => by
    rw [docsL] at h
    split at h
    · split at h
      · cases h
      · rename_i x hx
        cases hd : docsL s (some t) r (j + x.2) with
        | bad a => rw [hd] at h; cases h
        | ok ds' k' =>
          rw [hd] at h
          cases h
          obtain ⟨h1, h2, h3⟩ := docsL_le s r _ _ _ _ hd
          refine ⟨by omega, by simp [h2], fun i => ?_⟩
          cases i with
          | zero => rfl
          | succ i => exact h3 i
    · cases hd : docsL s (some t) r j with
      | bad a => rw [hd] at h; cases h
      | ok ds' k' =>
        rw [hd] at h
        cases h
        obtain ⟨h1, h2, h3⟩ := docsL_le s r _ _ _ _ hd
        refine ⟨by omega, by simp [h2], fun i => ?_⟩
        cases i with
        | zero => rfl
        | succ i => exact h3 i
theorem hereB_shift (c : Nat) (prev : Option Tok) (t : Tok) : hereB (prev.map (shiftT c)) (shiftT c t) = hereB prev t := by cases prev <;> rfl
theorem stripB_shift (c : Nat) (prev : Option Tok) : stripB (prev.map (shiftT c)) = stripB prev := by cases prev <;> rfl
/-- documents further on, with other bytes behind -/
theorem docsL_loc {u : List UInt8} (hu : EndNL u) (a r b : List UInt8) : ∀ (ts : List Tok) (prev : Option Tok) (j : Nat) (ds : List Tok) (k : Nat), docsL (u ++ r) prev ts j = .ok ds k → k ≤ u.length →
    docsL (a ++ (u ++ b)) (prev.map (shiftT a.length)) (ts.map (shiftT a.length)) (j + a.length) = .ok (ds.map (shiftT a.length)) (k + a.length)
  | [], prev, j, ds, k, h, _ => by cases h; rfl
  | t :: q, prev, j, ds, k, h, hk => by
    rw [docsL] at h
    rw [List.map_cons, docsL, hereB_shift, stripB_shift]
    split at h
    · rename_i h1
      rw [if_pos h1]
      split at h
      · cases h
      · rename_i x hx
        cases hd : docsL (u ++ r) (some t) q (j + x.2) with
        | bad a => rw [hd] at h; cases h
        | ok ds' k' =>
          rw [hd] at h
          cases h
          have hle := (docsL_le _ _ _ _ _ _ hd).1
          have hx1 : 1 ≤ x.2 := docL_pos _ _ _ _ _ hx
          have hj : j < u.length := by omega
          rw [List.drop_append_of_le_length (by omega)] at hx
          have hx2 : docP (stripB prev) (bareP t.text) (u.drop j ++ b) = some x := docL_loc _ _ _ _ (u.drop j) r b x (endNL_drop hu hj) (by rw [List.length_append]; omega) hx (by rw [List.length_drop]; omega)
          have hdr : (a ++ (u ++ b)).drop (j + a.length) = u.drop j ++ b := by
            rw [Nat.add_comm, List.drop_append, List.drop_of_length_le (by omega), List.nil_append, Nat.add_sub_cancel_left, List.drop_append_of_le_length (by omega)]
          have ih := docsL_loc hu a r b q (some t) (j + x.2) ds' k hd hk
          rw [hdr, show bareP (shiftT a.length t).text = bareP t.text from rfl, hx2]
          show (docsL _ (some (shiftT a.length t)) _ (j + a.length + x.2)).app _ = _
          rw [show j + a.length + x.2 = j + x.2 + a.length by omega]
          rw [Option.map_some] at ih
          rw [ih]
          rfl
    · rename_i h1
      rw [if_neg h1]
      cases hd : docsL (u ++ r) (some t) q j with
      | bad a => rw [hd] at h; cases h
      | ok ds' k' =>
        rw [hd] at h
        cases h
        have ih := docsL_loc hu a r b q (some t) j ds' k hd hk
        rw [Option.map_some] at ih
        rw [ih]
        rfl
theorem endNL_take {s : List UInt8} {k : Nat} (h1 : 1 ≤ k) (h2 : k ≤ s.length) (h3 : nth s (k - 1) 0 = 10) : EndNL (s.take k) := by
  have hl : (s.take k).length = k := by rw [List.length_take]; omega
  refine ⟨List.ne_nil_of_length_pos (by omega), ?_⟩
  rw [hl, ← h3]
  unfold nth
  rw [List.getD_eq_getElem?_getD, List.getD_eq_getElem?_getD, List.getElem?_take, if_pos (by omega)]
end Go.Tri
namespace Go.Tri
open Go.RowKit
end Go.Tri
namespace Go.Tri
open Go.RowKit
end Go.Tri

/-
  The tokens of a text: those of its lines, one behind the other.
-/
namespace Go.Tri
open Go.RowKit
theorem tokL_pos : ∀ (f : Nat) (l : List UInt8) (k : Nat), l ≠ [] → tokL (f + 1) l = .stop k → 1 ≤ k := fun f l k hl h => by
  rw [tokL, if_neg hl] at h
  split at h
  · cases hr : tokL f (l.drop (blankN l)) with
    | stop m => rw [hr] at h; cases h; omega
    | bad a e => rw [hr] at h; cases h
    | tok o m kd tx => rw [hr] at h; cases h
  · unfold headP at h
    split at h
    · cases h
    · split at h
      · cases h
      · unfold restP at h
        split at h
        · cases h
        · split at h <;> cases h
theorem lineL_pos (f p : Nat) (l : List UInt8) (ts : List Tok) (k : Nat) (hl : l ≠ []) (h : lineL (f + 1) p l = .ok ts k) : 1 ≤ k := by
  rw [lineL] at h
  have hfit := tokP_fit l
  cases ht : tokP l with
  | stop m => simp only [ht] at h; cases h; exact tokL_pos _ _ _ hl ht
  | bad a e => simp only [ht] at h; cases h
  | tok off m kind text =>
    rw [ht] at hfit
    have h1 : 1 ≤ m := hfit.1
    simp only [ht] at h
    split at h
    · cases h; exact h1
    · cases hr : lineL f (p + m) (l.drop m) with
      | bad a e => rw [hr] at h; cases h
      | ok ts' k' => rw [hr] at h; cases h; omega
theorem line_fin {s : List UInt8} {i : Nat} (hi : i ≤ s.length) (h : (lineP s i).err = 0) : i ≤ (lineP s i).fin ∧ (lineP s i).fin ≤ s.length ∧ (i < s.length → i < (lineP s i).fin) ∧ i + (lineP s i).toks.length ≤ (lineP s i).fin := by
  obtain ⟨_, _, _, ts, k, ds, j, e1, e2, e3⟩ := lineP_ok h
  rw [e3, Int.toNat_natCast] at *
  have h1 := lineL_st s _ i ts k hi e1
  have h2 := docsL_st s ts none i (i + k) ds j h1 e2
  have h3 := stand_len h2.1
  refine ⟨Nat.le_trans (Nat.le_add_right _ _) h2.2, h3.2, fun hlt => ?_, ?_⟩
  · have := lineL_pos _ _ _ _ _ (List.ne_nil_of_length_pos (by rw [List.length_drop]; omega)) e1
    show i < j
    omega
  · show i + ds.length ≤ j
    omega
end Go.Tri
