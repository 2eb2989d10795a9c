/-
 Tokens stand in the text where they say.
-/
import Derived.Test.YtmjcakamgeepbaaGreatDoorPLex5
namespace Go.Tri
open Go.RowKit
theorem nth_drop_h (s : List UInt8) (i : Nat) : nth (s.drop i) 0 0 = nth s i 0 := by
 unfold nth; rw [List.getD_eq_getElem?_getD, List.getD_eq_getElem?_getD, List.getElem?_drop]; rfl
def gapB (s : List UInt8) (a b : Nat) : Prop := ∀ i, a ≤ i → i < b → (∃ k, a ≤ k ∧ k ≤ i ∧ nth s k 0 = 35) ∨ nth s i 0 = 9 ∨ nth s i 0 = 32 ∨ nth s i 0 = 92 ∨ nth s i 0 = 10
theorem gap_app {s : List UInt8} {a b c : Nat} (h1 : gapB s a b) (h2 : gapB s b c) (hab : a ≤ b) : gapB s a c := fun i hi hc => by
 by_cases h : i < b
 ·exact h1 i hi h
 ·rcases h2 i (by omega) hc with ⟨k, k1, k2, k3⟩ | h
  ·exact .inl ⟨k, by omega, k2, k3⟩
  ·exact .inr h
theorem gap_nil (s : List UInt8) (a : Nat) : gapB s a a := fun i h1 h2 => absurd h2 (by omega)
/-- of the token at j: so far it is gone over blanks; it is what stands there -/
def StT (s : List UInt8) (j : Nat) : TR → Prop
 | .tok off k kind text => k = off + text.length ∧ j + k ≤ s.length ∧ (s.drop (j + off)).take text.length = text ∧ text ≠ [] ∧ 1 ≤ kind ∧ kind ≤ 4 ∧ gapB s j (j + off)
 | .stop k => j + k ≤ s.length
 | .bad _ _ => True
theorem stB_take {l t : List UInt8} (h : stB l t = true) : l.take t.length = t := of_decide_eq_true h
theorem gap_blank {s : List UInt8} {j : Nat} (hj : j < s.length) : gapB s j (j + blankN (s.drop j)) := by
 intro i h1 h2
 unfold blankN at h2
 split at h2
 ·rename_i h
  have ht := stB_take h
  have h2l := stB_len h
  rw [List.length_drop] at h2l
  replace h2l : 2 ≤ s.length - j := h2l
  have e0 : nth s j 0 = 92 := by
   have := congrArg (fun l => nth l 0 0) ht
   simpa [drop_nth 0 hj, nth] using this
  have e1 : nth s (j + 1) 0 = 10 := by
   have := congrArg (fun l => nth l 1 0) ht
   rw [drop_nth 0 hj, drop_nth 0 (show j + 1 < s.length by omega)] at this
   simpa [nth] using this
  rcases (show i = j ∨ i = j + 1 by omega) with rfl | rfl
  ·exact .inr (.inr (.inr (.inl e0)))
  ·exact .inr (.inr (.inr (.inr e1)))
 ·split at h2
  ·rename_i h
   obtain rfl : i = j := by omega
   rw [nth_drop_h, Bool.or_eq_true, decide_eq_true_eq, decide_eq_true_eq] at h
   rcases h with h | h
   ·exact .inr (.inr (.inl h))
   ·exact .inr (.inl h)
  ·split at h2
   ·rename_i h
    rw [nth_drop_h] at h
    exact .inl ⟨j, Nat.le_refl _, h1, h⟩
   ·omega
theorem headP_st {s : List UInt8} {j : Nat} (hj : j < s.length) (hb : blankN (s.drop j) = 0) : StT s j (headP (s.drop j)) := by
 have hl : s.drop j ≠ [] := List.ne_nil_of_length_pos (by rw [List.length_drop]; omega)
 have hfit := headP_fit hl hb
 have hlen : (s.drop j).length = s.length - j := List.length_drop
 unfold headP at hfit ⊢
 split
 ·rename_i h
  rw [nth_drop_h] at h
  refine ⟨rfl, by omega, ?_, by simp, by decide, by decide, gap_nil s j⟩
  rw [Nat.add_zero, drop_nth 0 hj, h]; rfl
 ·split
  ·rename_i h1 h2
   obtain ⟨h3, h4, h5⟩ := opN_len 3 (s.drop j)
   refine ⟨by omega, ?_, ?_, h2, by decide, by decide, gap_nil s j⟩
   ·rw [hlen] at h3
    show j + (opN 3 (s.drop j)).length ≤ _
    omega
   ·rw [Nat.add_zero]; exact h5.symm
  ·rename_i h1 h2
   rw [if_neg h1, if_neg h2] at hfit
   unfold restP at hfit ⊢
   cases hw : wordP (s.drop j) with
   | bad a e => trivial
   | ok k =>
    simp only [hw] at hfit
    show StT s j (if 4096 < k then .bad 0 51 else _)
    split
    ·trivial
    ·rename_i h3
     rw [if_neg h3] at hfit
     have hk := wordP_fit hw
     have hk1 : 1 ≤ k := hfit.1
     have htl : ((s.drop j).take k).length = k := by rw [List.length_take]; omega
     refine ⟨by omega, by omega, by rw [Nat.add_zero, htl], ?_, by split <;> decide, by split <;> decide, gap_nil s j⟩
     exact List.ne_nil_of_length_pos (by omega)
theorem stT_on {s : List UInt8} {j n : Nat} {r : TR} (h : StT s (j + n) r) (hg : gapB s j (j + n)) : StT s j (r.on n) := by
 cases r with
 | stop k =>
  show j + (n + k) ≤ _
  have h2 : j + n + k ≤ s.length := h
  omega
 | bad a e => trivial
 | tok off k kind text =>
  obtain ⟨h1, h2, h3, h4, h5, h6, h7⟩ := h
  refine ⟨by omega, by omega, by rw [← Nat.add_assoc]; exact h3, h4, h5, h6, ?_⟩
  rw [← Nat.add_assoc]
  exact gap_app hg h7 (by omega)
theorem tokL_st (s : List UInt8) : ∀ (f j : Nat), j ≤ s.length → StT s j (tokL f (s.drop j))
 | 0, j, h => by show j + 0 ≤ _; omega
 | f + 1, j, h => by
  unfold tokL
  split
  ·show j + 0 ≤ _; omega
  ·rename_i hl
   have hj : j < s.length := by
    refine Classical.byContradiction fun hn => hl (List.drop_of_length_le (by omega))
   have hb := blankN_le hl
   rw [List.length_drop] at hb
   split
   ·rw [List.drop_drop]
    exact stT_on (tokL_st s f (j + blankN (s.drop j)) (by omega)) (gap_blank hj)
   ·rename_i h0
    exact headP_st hj (by simpa using h0)
def StandP (s : List UInt8) : Nat → List Tok → Nat → Prop
 | a, [], e => a ≤ e ∧ e ≤ s.length
 | a, t :: r, e => (a ≤ t.pos ∧ t.pos + t.text.length ≤ s.length ∧ (s.drop t.pos).take t.text.length = t.text ∧ t.text ≠ [] ∧ 1 ≤ t.kind ∧ t.kind ≤ 4 ∧ gapB s a t.pos) ∧ StandP s (t.pos + t.text.length) r e
theorem lineL_st (s : List UInt8) : ∀ (f j : Nat) (ts : List Tok) (k : Nat), j ≤ s.length → lineL f j (s.drop j) = .ok ts k → StandP s j ts (j + k)
 | 0, j, ts, k, h, h1 => by cases h1; exact ⟨by omega, by omega⟩
 | f + 1, j, ts, k, h, h1 => by
  rw [lineL] at h1
  have hst : StT s j (tokP (s.drop j)) := tokL_st s _ j h
  cases ht : tokP (s.drop j) with
  | stop m =>
   rw [ht] at hst
   simp only [ht] at h1
   cases h1
   exact ⟨by omega, hst⟩
  | bad a e => simp only [ht] at h1; cases h1
  | tok off m kind text =>
   rw [ht] at hst
   simp only [ht] at h1
   obtain ⟨s1, s2, s3, s4, s5, s6, s7⟩ := hst
   have hhead : (j ≤ j + off ∧ j + off + text.length ≤ s.length ∧ (s.drop (j + off)).take text.length = text ∧ text ≠ [] ∧ 1 ≤ kind ∧ kind ≤ 4 ∧ gapB s j (j + off)) := ⟨by omega, by omega, s3, s4, s5, s6, s7⟩
   split at h1
   ·cases h1
    exact ⟨hhead, by show j + off + text.length ≤ _; omega, by omega⟩
   ·cases hr : lineL f (j + m) ((s.drop j).drop m) with
    | bad a e => rw [hr] at h1; cases h1
    | ok ts' k' =>
     rw [hr] at h1
     cases h1
     rw [List.drop_drop] at hr
     have := lineL_st s f (j + m) ts' k' s2 hr
     refine ⟨hhead, ?_⟩
     rw [show j + off + text.length = j + m by omega, show j + (m + k') = j + m + k' by omega]
     exact this
theorem docL_le (strip : Bool) (d : List UInt8) : ∀ (f : Nat) (l : List UInt8) (x : List UInt8 × Nat), docL strip d f l = some x → x.2 ≤ l.length
 | 0, l, x, h => by cases h
 | f + 1, l, x, h => by
  rw [docL] at h
  split at h
  ·cases h
  ·split at h
   ·cases h
    show min _ _ ≤ _
    omega
   ·split at h
    ·cases h
    ·rename_i hb
     have hb' : hasB l 10 = true := by simpa using hb
     have hr := (remark_has (l := l)).1 hb'
     cases hd : docL strip d f (l.drop (remark l + 1)) with
     | none => rw [hd] at h; cases h
     | some y =>
      rw [hd] at h
      cases h
      have := docL_le strip d f _ y hd
      rw [List.length_drop] at this
      show remark l + 1 + y.2 ≤ _
      omega
theorem docsL_st (s : List UInt8) : ∀ (ts : List Tok) (prev : Option Tok) (a e : Nat) (ds : List Tok) (j : Nat), StandP s a ts e → docsL s prev ts e = .ok ds j → StandP s a ds j ∧ e ≤ j := by
 have key : ∀ (ts : List Tok) (prev : Option Tok) (a e0 e : Nat) (ds : List Tok) (j : Nat), e0 ≤ e → e ≤ s.length → StandP s a ts e0 → docsL s prev ts e = .ok ds j → StandP s a ds j ∧ e ≤ j := by
  intro ts
  induction ts with
  | nil =>
   intro prev a e0 e ds j h0 h1 h2 h3
   cases h3
   exact ⟨⟨Nat.le_trans h2.1 h0, h1⟩, Nat.le_refl _⟩
  | cons t r ih =>
   intro prev a e0 e ds j h0 h1 h2 h3
   rw [docsL] at h3
   split at h3
   ·cases hd : docP (stripB prev) (bareP t.text) (s.drop e) with
    | none => simp only [hd] at h3; cases h3
    | some x =>
     simp only [hd] at h3
     have hx := docL_le _ _ _ _ _ hd
     rw [List.length_drop] at hx
     cases hr : docsL s (some t) r (e + x.2) with
     | bad p => rw [hr] at h3; cases h3
     | ok ds' j' =>
      rw [hr] at h3
      cases h3
      obtain ⟨k1, k2⟩ := ih (some t) _ e0 (e + x.2) ds' j (by omega) (by omega) h2.2 hr
      exact ⟨⟨h2.1, k1⟩, by omega⟩
   ·cases hr : docsL s (some t) r e with
    | bad p => rw [hr] at h3; cases h3
    | ok ds' j' =>
     rw [hr] at h3
     cases h3
     obtain ⟨k1, k2⟩ := ih (some t) _ e0 e ds' j h0 h1 h2.2 hr
     exact ⟨⟨h2.1, k1⟩, k2⟩
 intro ts prev a e ds j h1 h2
 have he : e ≤ s.length := by
  clear h2
  induction ts generalizing a with
  | nil => exact h1.2
  | cons t r ih => exact ih _ h1.2
 exact key ts prev a e e ds j (Nat.le_refl _) he h1 h2
theorem lineL_faulty : ∀ (f p : Nat) (l : List UInt8) (a e : Nat), lineL f p l = .bad a e → e ≠ 0
 | 0, p, l, a, e, h => by cases h
 | f + 1, p, l, a, e, h => by
  rw [lineL] at h
  have hfit := tokP_fit l
  cases ht : tokP l with
  | stop k => simp only [ht] at h; cases h
  | bad a' e' =>
   rw [ht] at hfit
   simp only [ht] at h
   cases h; exact hfit
  | tok off k kind text =>
   simp only [ht] at h
   split at h
   ·cases h
   ·cases hr : lineL f (p + k) (l.drop k) with
    | bad a' e' =>
     rw [hr] at h
     cases h
     exact lineL_faulty f _ _ _ _ hr
    | ok ts j => rw [hr] at h; cases h
theorem lineP_ok {s : List UInt8} {i : Int} (h : (lineP s i).err = 0) : s.length ≤ 65536 ∧ 0 ≤ i ∧ i ≤ s.length ∧ ∃ ts k ds j, lineL (s.length + 1) i.toNat (s.drop i.toNat) = .ok ts k ∧ docsL s none ts (i.toNat + k) = .ok ds j ∧ lineP s i = ⟨ds, j, 0, 0⟩ := by
 unfold lineP at *
 split at h
 ·cases h
 ·rename_i h1
  rw [if_neg h1] at *
  split at h
  ·cases h
  ·rename_i h2
   rw [if_neg h2]
   refine ⟨by omega, by omega, by omega, ?_⟩
   unfold lineAt at *
   cases hl : lineL (s.length + 1) i.toNat (s.drop i.toNat) with
   | bad a e =>
    simp only [hl] at h
    exact absurd h (lineL_faulty _ _ _ _ _ hl)
   | ok ts k =>
    simp only [hl] at h ⊢
    cases hd : docsL s none ts (i.toNat + k) with
    | bad a => simp only [hd] at h; cases h
    | ok ds j => exact ⟨ts, k, ds, j, rfl, hd, rfl⟩
theorem stands {s : List UInt8} (h : (lineP s 0).err = 0) : StandP s 0 (lineP s 0).toks (lineP s 0).fin := by
 obtain ⟨_, _, _, ts, k, ds, j, h1, h2, h3⟩ := lineP_ok h
 rw [h3]
 have := lineL_st s _ 0 ts k (Nat.zero_le _) (by simpa using h1)
 simp only [Nat.zero_add] at this
 exact (docsL_st s ts none 0 k ds j this (by simpa using h2)).1
/-- the same, from the n-th token on -/
theorem StandP.at {s : List UInt8} {l : List Tok} {e : Nat} : ∀ {n a : Nat}, StandP s a (l.drop n) e → n < l.length → (a ≤ (nth l n tok0).pos ∧ (nth l n tok0).pos + (nth l n tok0).text.length ≤ s.length ∧ (s.drop (nth l n tok0).pos).take (nth l n tok0).text.length = (nth l n tok0).text ∧ (nth l n tok0).text ≠ [] ∧ 1 ≤ (nth l n tok0).kind ∧ (nth l n tok0).kind ≤ 4 ∧ gapB s a (nth l n tok0).pos) ∧ StandP s ((nth l n tok0).pos + (nth l n tok0).text.length) (l.drop (n + 1)) e := fun h hn => by
 rw [drop_nth tok0 hn] at h
 exact h
deriving instance DecidableEq for LineV
end Go.Tri

/-
 Quoted words one behind the other.
-/
namespace Go.Tri
open Go.RowKit
end Go.Tri

/-
 What a line is read as hangs on its own bytes alone.
-/
namespace Go.Tri
open Go.RowKit
theorem on_ok {r : LR} {j k : Nat} (h : r.on j = .ok k) : ∃ m, r = .ok m ∧ k = j + m := by
 cases r with
 | ok m => injection h with h; exact ⟨m, rfl, h.symm⟩
 | bad a e => cases h
 | out => cases h
theorem close_ok {r : LR} {j e k : Nat} (h : r.close j e = .ok k) : ∃ m, r = .ok m ∧ k = j + m := by
 cases r with
 | ok m => injection h with h; exact ⟨m, rfl, h.symm⟩
 | bad a e => cases h
 | out => cases h
end Go.Tri

/-
 What a whole line is read as hangs on its own bytes alone, its documents with it.
-/
namespace Go.Tri
open Go.RowKit
end Go.Tri
namespace Go.Tri
open Go.RowKit
end Go.Tri
namespace Go.Tri
open Go.RowKit
end Go.Tri

/-
 The tokens of a text: those of its lines, one behind the other.
-/
namespace Go.Tri
open Go.RowKit
end Go.Tri

/-
 A document's body is told as it stands.
-/
namespace Go.Tri
open Go.RowKit
deriving instance DecidableEq for LnR
end Go.Tri

/-
 Where a scan ends, as the reference tells it: an end, a place, an error.
-/
namespace Go.Tri
open Go.RowKit
def scE (i : Nat) : SR → Nat
 | .ok k => i + k
 | .bad _ _ => 0
def scP (i : Nat) : SR → Nat
 | .ok _ => 0
 | .bad a _ => i + a
def scX : SR → Nat
 | .ok _ => 0
 | .bad _ e => e
def dl (b : Bool) (x : Nat) : Nat := if b then x else 0
def begB (s : List UInt8) (i : Nat) : Bool := stB (s.drop i) [36, 40] || stB (s.drop i) [36, 123]
theorem stB1_at {s : List UInt8} {j : Nat} {c : UInt8} (hj : j < s.length) : stB (s.drop j) [c] = decide (nth s j 0 = c) := by
 rw [drop_nth 0 hj, stB_one]
theorem stB2_at {s : List UInt8} {j : Nat} {c d : UInt8} (h : stB (s.drop j) [c, d] = true) : j + 2 ≤ s.length ∧ nth s j 0 = c ∧ nth s (j + 1) 0 = d := by
 have hl := stB_len h
 rw [List.length_drop] at hl
 simp only [List.length_cons, List.length_nil] at hl
 have h1 := of_decide_eq_true h
 simp only [List.length_cons, List.length_nil] at h1
 rw [drop_nth 0 (show j < s.length by omega), drop_nth 0 (show j + 1 < s.length by omega)] at h1
 simp at h1
 exact ⟨by omega, h1.1, h1.2⟩
theorem begB_at {s : List UInt8} {i : Nat} (h : begB s i = true) : i + 2 ≤ s.length ∧ nth s i 0 = 36 ∧ (nth s (i + 1) 0 = 40 ∨ nth s (i + 1) 0 = 123) := by
 unfold begB at h
 rw [Bool.or_eq_true] at h
 rcases h with h | h
 ·have := stB2_at h; exact ⟨this.1, this.2.1, .inl this.2.2⟩
 ·have := stB2_at h; exact ⟨this.1, this.2.1, .inr this.2.2⟩
/-- what a step of a scan tells, by its three numbers -/
def StR (len j : Nat) (r : SR) (e p x : Nat) : Prop := match r with
 | .ok k => p = 0 ∧ x = 0 ∧ 1 ≤ k ∧ j + k ≤ len ∧ (e = j + k ∨ (len < e ∧ e ≤ len + 1 ∧ j + k = len))
 | .bad a e' => x = e' ∧ e' ≠ 0 ∧ p = j + a ∧ e = 0
theorem StR.of {s : List UInt8} {j : Nat} {r : SR} (hfit : Fit (s.drop j) r) (hf : Faulty r) (hj : j < s.length) : StR s.length j r (scE j r) (scP j r) (scX r) := by
 cases r with
 | ok k =>
  have h1 : 1 ≤ k := hfit.1
  have h2 : k ≤ (s.drop j).length := hfit.2
  rw [List.length_drop] at h2
  exact ⟨rfl, rfl, h1, by omega, .inl rfl⟩
 | bad a e => exact ⟨rfl, hf, rfl, rfl⟩
theorem StR.one {len j : Nat} (hj : j < len) : StR len j (.ok 1) (j + 1) 0 0 := ⟨rfl, rfl, by omega, by omega, .inl rfl⟩
theorem StR.f {len j e p x : Nat} {r : SR} (h : StR len j r e p x) (hx : x ≠ 0) : ∃ a, r = .bad a x ∧ p = j + a ∧ e = 0 := by
 cases r with
 | ok k => exact absurd h.2.1 hx
 | bad a e' => obtain ⟨rfl, _, h3, h4⟩ := h; exact ⟨a, rfl, h3, h4⟩
theorem StR.t {len j e p x : Nat} {r : SR} (h : StR len j r e p x) (hx : x = 0) : ∃ k, r = .ok k ∧ 1 ≤ k ∧ j + k ≤ len ∧ (e = j + k ∨ (len < e ∧ e ≤ len + 1 ∧ j + k = len)) := by
 cases r with
 | ok k => exact ⟨k, rfl, h.2.2⟩
 | bad a e' => obtain ⟨rfl, h2, _⟩ := h; exact absurd hx h2
theorem single_fit (l : List UInt8) (h : l ≠ []) : Fit l (singleP l) := by
 have hp := List.length_pos_iff.2 h
 unfold singleP
 split
 ·trivial
 ·rename_i h1
  have hge := Lib.indexByte_ge (l.drop 1) 39
  obtain ⟨i, hi⟩ : ∃ i : Nat, Lib.indexByte (l.drop 1) 39 = i := ⟨(Lib.indexByte (l.drop 1) 39).toNat, by omega⟩
  have := (indexByte_some hi).1
  rw [List.length_drop] at this
  rw [hi]
  exact ⟨by omega, by omega⟩
/-- where what begins at a place ends -/
def endR (s : List UInt8) (i d : Nat) (q : Bool) : Option SR := if nth s i 0 = 34 then some ((lv (24 - d)).1 (s.drop i)) else if nth s i 0 = 39 ∧ q = false then some (singleP (s.drop i)) else if begB s i = true then some ((lv (24 - d)).2 q (s.drop i)) else none
def endN (i : Nat) : Option SR → Nat × Nat × Nat
 | none => (0, 0, 0)
 | some r => (scE i r, scP i r, scX r)
def endT (s : List UInt8) (at' d : Int) (q : Bool) : Nat × Nat × Nat := if at' < 0 ∨ (s.length : Int) ≤ at' ∨ d < 0 ∨ 24 < d then (0, 0, 0) else endN at'.toNat (endR s at'.toNat d.toNat q)
theorem endT_out {s : List UInt8} {i d : Int} {q : Bool} (h : (decide (i < 0) || decide ((s.length : Int) ≤ i) || decide (d < 0) || decide (24 < d)) = true) : endT s i d q = (0, 0, 0) := by
 unfold endT
 rw [if_pos]
 simp only [Bool.or_eq_true, decide_eq_true_eq] at h
 rcases h with ((h | h) | h) | h
 ·exact .inl h
 ·exact .inr (.inl h)
 ·exact .inr (.inr (.inl h))
 ·exact .inr (.inr (.inr h))
theorem endT_in {s : List UInt8} {i d : Int} (h : (decide (i < 0) || decide ((s.length : Int) ≤ i) || decide (d < 0) || decide (24 < d)) = false) : ∃ i' d' : Nat, i = i' ∧ d = d' ∧ i' < s.length ∧ d' ≤ 24 ∧ ∀ q, endT s i d q = endN i' (endR s i' d' q) := by
 simp only [Bool.or_eq_false_iff, decide_eq_false_iff_not] at h
 obtain ⟨⟨⟨h1, h2⟩, h3⟩, h4⟩ := h
 refine ⟨i.toNat, d.toNat, by omega, by omega, by omega, by omega, fun q => ?_⟩
 unfold endT
 rw [if_neg (by omega)]
theorem endR_dbl {s : List UInt8} {i d : Nat} {q : Bool} (h : nth s i 0 = 34) : endR s i d q = some ((lv (24 - d)).1 (s.drop i)) := by rw [endR, if_pos h]
theorem endR_sgl {s : List UInt8} {i d : Nat} {q : Bool} (h : nth s i 0 = 39) (hq : q = false) : endR s i d q = some (singleP (s.drop i)) := by rw [endR, if_neg (by rw [h]; decide), if_pos ⟨h, hq⟩]
theorem endR_dlr {s : List UInt8} {i d : Nat} {q : Bool} (h : nth s i 0 ≠ 34) (h2 : ¬ (nth s i 0 = 39 ∧ q = false)) (hb : begB s i = true) : endR s i d q = some ((lv (24 - d)).2 q (s.drop i)) := by rw [endR, if_neg h, if_neg h2, if_pos hb]
theorem endR_none {s : List UInt8} {i d : Nat} {q : Bool} (h : nth s i 0 ≠ 34) (h2 : ¬ (nth s i 0 = 39 ∧ q = false)) (hb : begB s i = false) : endR s i d q = none := by rw [endR, if_neg h, if_neg h2, if_neg (by rw [hb]; simp)]
end Go.Tri
