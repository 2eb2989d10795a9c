/-
  The documents of a line, one by one.
-/
import Derived.Test.YtfnmioggkmkmcaaDoorPLex4
namespace Go.Tri
open Go.RowKit
def prevOf (l : List Tok) (n : Nat) : Option Tok := if n = 0 then none else some (nth l (n - 1) tok0)
structure DInv (s : List UInt8) (l : List Tok) (j0 n : Nat) (cur : List Tok) (jj : Nat) : Prop where
  le : n ≤ l.length
  len : cur.length = l.length
  eq : docsL s none l j0 = (docsL s (prevOf l n) (l.drop n) jj).app (cur.take n)
  rest : cur.drop n = l.drop n
  same : ∀ m, m < n → (nth cur m tok0).kind = (nth l m tok0).kind ∧ (nth cur m tok0).text = (nth l m tok0).text
theorem DsR.app_nil (r : DsR) : r.app [] = r := by cases r <;> simp [DsR.app]
theorem DInv.start (s : List UInt8) (l : List Tok) (j0 : Nat) : DInv s l j0 0 l j0 :=
  ⟨Nat.zero_le _, rfl, by rw [List.take_zero, DsR.app_nil]; rfl, rfl, fun m h => absurd h (Nat.not_lt_zero m)⟩
section
variable {s : List UInt8} {l cur : List Tok} {j0 n jj : Nat}
theorem DInv.cur_at (h : DInv s l j0 n cur jj) (hn : n < l.length) : nth cur n tok0 = nth l n tok0 := by
  have := h.rest
  rw [drop_nth tok0 (by rw [h.len]; exact hn), drop_nth tok0 hn] at this
  injection this
theorem prevOf_succ (l : List Tok) (n : Nat) : prevOf l (n + 1) = some (nth l n tok0) := by
  unfold prevOf; rw [if_neg (by omega)]; rfl
theorem DInv.skip (h : DInv s l j0 n cur jj) (hn : n < l.length) (hh : hereB (prevOf l n) (nth l n tok0) = false) : DInv s l j0 (n + 1) cur jj := by
  refine ⟨hn, h.len, ?_, ?_, fun m hm => ?_⟩
  · rw [h.eq, drop_nth tok0 hn, docsL, if_neg (by rw [hh]; simp), DsR.app_app, prevOf_succ, take_nth tok0 (by rw [h.len]; exact hn), h.cur_at hn]
  · have := h.rest
    rw [drop_nth tok0 (by rw [h.len]; exact hn), drop_nth tok0 hn] at this
    injection this
  · rcases Nat.lt_succ_iff_lt_or_eq.1 hm with h1 | rfl
    · exact h.same m h1
    · rw [h.cur_at hn]; exact ⟨rfl, rfl⟩
theorem DInv.bad (h : DInv s l j0 n cur jj) (hn : n < l.length) (hh : hereB (prevOf l n) (nth l n tok0) = true) (hd : docP (stripB (prevOf l n)) (bareP (nth l n tok0).text) (s.drop jj) = none) : docsL s none l j0 = .bad (nth l n tok0).pos := by
  rw [h.eq, drop_nth tok0 hn, docsL, if_pos hh, hd]; rfl
theorem nth_set_eq {α : Type} {l : List α} {n : Nat} {a d : α} (h : n < l.length) : nth (l.set n a) n d = a := by
  unfold nth; rw [List.getD_eq_getElem?_getD, List.getElem?_set_self h]; rfl
theorem nth_set_ne {α : Type} {l : List α} {n m : Nat} {a d : α} (h : n ≠ m) : nth (l.set n a) m d = nth l m d := by
  unfold nth; rw [List.getD_eq_getElem?_getD, List.getElem?_set_ne h]; rfl
theorem DInv.doc (h : DInv s l j0 n cur jj) (hn : n < l.length) (hh : hereB (prevOf l n) (nth l n tok0) = true) {x : List UInt8 × Nat} (hd : docP (stripB (prevOf l n)) (bareP (nth l n tok0).text) (s.drop jj) = some x) :
    DInv s l j0 (n + 1) (cur.set n { nth l n tok0 with doc := x.1, raw := anyOf (nth l n tok0).text quoteSet }) (jj + x.2) := by
  have hnc : n < cur.length := by rw [h.len]; exact hn
  refine ⟨hn, by rw [List.length_set]; exact h.len, ?_, ?_, fun m hm => ?_⟩
  · rw [h.eq, drop_nth tok0 hn, docsL, if_pos hh, hd]
    show ((docsL s _ _ _).app _).app _ = _
    rw [DsR.app_app, prevOf_succ, take_nth tok0 (by rw [List.length_set]; exact hnc), nth_set_eq hnc, List.take_set_of_le (Nat.le_refl _)]
  · rw [List.drop_set_of_lt (by omega)]
    have := h.rest
    rw [drop_nth tok0 hnc, drop_nth tok0 hn] at this
    injection this
  · rcases Nat.lt_succ_iff_lt_or_eq.1 hm with h1 | rfl
    · rw [nth_set_ne (by omega)]; exact h.same m h1
    · rw [nth_set_eq hnc]; exact ⟨rfl, rfl⟩
theorem DInv.done (h : DInv s l j0 n cur jj) (hn : ¬ n < l.length) : docsL s none l j0 = .ok cur jj := by
  rw [h.eq, List.drop_of_length_le (by omega), List.take_of_length_le (by rw [h.len]; omega)]
  simp [docsL, DsR.app]
theorem DInv.here (h : DInv s l j0 n cur jj) (hn : n < l.length) : hereB (prevOf l n) (nth l n tok0) = !(decide ((n : Int) = 0) || decide (((nth cur n tok0).kind : Int) ≠ 1) || decide (((nth cur (n - 1) tok0).kind : Int) ≠ 2) || !stB (nth cur (n - 1) tok0).text [60, 60]) := by
  rw [h.cur_at hn]
  unfold prevOf
  rcases Nat.eq_zero_or_pos n with h0 | h0
  · subst h0; simp [hereB]
  · rw [if_neg (by omega), decide_eq_false (show ¬ ((n : Int) = 0) by omega), (h.same (n - 1) (by omega)).1, (h.same (n - 1) (by omega)).2]
    unfold hereB
    have e1 : ∀ k c : Nat, decide ((k : Int) ≠ (c : Int)) = !decide (k = c) := fun k c => by
      by_cases h : k = c
      · subst h; simp
      · rw [decide_eq_false h, decide_eq_true (by omega)]; rfl
    have e2 := e1 (nth l n tok0).kind 1
    have e3 := e1 (nth l (n - 1) tok0).kind 2
    rw [show decide (((nth l n tok0).kind : Int) ≠ 1) = _ from e2, show decide (((nth l (n - 1) tok0).kind : Int) ≠ 2) = _ from e3]
    show (decide ((nth l n tok0).kind = 1) && decide ((nth l (n - 1) tok0).kind = 2) && stB (nth l (n - 1) tok0).text [60, 60]) = _
    cases decide ((nth l n tok0).kind = 1) <;> cases decide ((nth l (n - 1) tok0).kind = 2) <;> cases stB (nth l (n - 1) tok0).text [60, 60] <;> rfl
theorem DInv.strip (h : DInv s l j0 n cur jj) (h0 : 0 < n) : stripB (prevOf l n) = decide ((nth cur (n - 1) tok0).text = [60, 60, 45]) := by
  unfold prevOf
  rw [if_neg (by omega), (h.same (n - 1) (by omega)).2]; rfl
end
/-- what the scan of a line's tokens left behind -/
def LnE (i : Nat) (r : LnR) (l : List Tok) (j a e : Nat) : Prop := match r with
  | .ok ts k => l = ts ∧ j = i + k ∧ a = 0 ∧ e = 0
  | .bad a' e' => e' ≠ 0 ∧ a = a' ∧ e = e'
theorem LnE.ok {i : Nat} {r : LnR} {l : List Tok} {j a e : Nat} (h : LnE i r l j a e) (he : e = 0) : ∃ k, r = .ok l k ∧ j = i + k ∧ a = 0 := by
  cases r with
  | ok ts k => exact ⟨k, by rw [h.1], h.2.1, h.2.2.1⟩
  | bad a' e' => exact absurd (h.2.2.symm.trans he) h.1
theorem LnE.bad {i : Nat} {r : LnR} {l : List Tok} {j a e : Nat} (h : LnE i r l j a e) (he : e ≠ 0) : r = .bad a e := by
  cases r with
  | ok ts k => exact absurd h.2.2.2 he
  | bad a' e' => rw [h.2.1, h.2.2]
end Go.Tri
