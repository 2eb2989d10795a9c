/-
  What a whole line is read as hangs on its own bytes alone, its documents with it.
-/
import Derived.Test.YtfnmioggkmkmcaaDoorPLex8
namespace Go.Tri
open Go.RowKit
theorem headP_nl {l text : List UInt8} {off k : Nat} (h : headP l = .tok off k 3 text) : off = 0 ∧ k = 1 ∧ nth l 0 0 = 10 := by
  unfold headP at h
  split at h
  · rename_i h1
    cases h; exact ⟨rfl, rfl, h1⟩
  · split at h
    · cases h
    · unfold restP at h
      split at h
      · cases h
      · split at h
        · cases h
        · injection h with _ _ e3 _
          split at e3 <;> cases e3
theorem tokL_nl : ∀ (f : Nat) (l text : List UInt8) (off k : Nat), tokL f l = .tok off k 3 text → 1 ≤ k ∧ nth l (k - 1) 0 = 10
  | 0, l, text, off, k, h => by cases h
  | f + 1, l, text, off, k, h => by
    rw [tokL] at h
    split at h
    · cases h
    · split at h
      · obtain ⟨o, m, hm, _, rfl⟩ := on_tok h
        obtain ⟨h1, h2⟩ := tokL_nl f _ text o m hm
        refine ⟨by omega, ?_⟩
        rw [show blankN l + m - 1 = blankN l + (m - 1) by omega, ← h2]
        unfold nth
        rw [List.getD_eq_getElem?_getD, List.getD_eq_getElem?_getD, List.getElem?_drop]
      · obtain ⟨rfl, rfl, h3⟩ := headP_nl h
        exact ⟨Nat.le_refl _, h3⟩
theorem lineL_nl : ∀ (f p : Nat) (l : List UInt8) (ts : List Tok) (k : Nat), lineL f p l = .ok ts k → ts ≠ [] → (nth ts (ts.length - 1) tok0).kind = 3 → 1 ≤ k ∧ nth l (k - 1) 0 = 10
  | 0, p, l, ts, k, h, hn, _ => by cases h; exact absurd rfl hn
  | f + 1, p, l, ts, k, h, hn, h3 => by
    rw [lineL] at h
    cases ht : tokP l with
    | stop m => simp only [ht] at h; cases h; exact absurd rfl hn
    | bad a e => simp only [ht] at h; cases h
    | tok off m kind text =>
      simp only [ht] at h
      split at h
      · rename_i h1
        cases h
        rw [h1] at ht
        exact tokL_nl _ _ _ _ _ ht
      · rename_i h1
        cases hr : lineL f (p + m) (l.drop m) with
        | bad a e => rw [hr] at h; cases h
        | ok ts' k' =>
          rw [hr] at h
          injection h with e1 e2
          subst e1
          cases ts' with
          | nil => exact absurd h3 h1
          | cons t2 q =>
            obtain ⟨h4, h5⟩ := lineL_nl f _ _ _ _ hr (by simp) (by simpa [nth] using h3)
            refine ⟨by omega, ?_⟩
            rw [show k - 1 = m + (k' - 1) by omega, ← h5]
            unfold nth
            rw [List.getD_eq_getElem?_getD, List.getD_eq_getElem?_getD, List.getElem?_drop]
theorem docsL_le (s : List UInt8) : ∀ (ts : List Tok) (prev : Option Tok) (j : Nat) (ds : List Tok) (k : Nat), docsL s prev ts j = .ok ds k → j ≤ k ∧ ds.length = ts.length ∧ ∀ i, (nth ds i tok0).kind = (nth ts i tok0).kind
  | [], prev, j, ds, k, h => by cases h; exact ⟨Nat.le_refl _, rfl, fun _ => rfl⟩
  | t :: r, prev, j, ds, k, h => by
    rw [docsL] at h
    split at h
    · split at h
      · cases h
      · rename_i x hx
        cases hd : docsL s (some t) r (j + x.2) with
        | bad a => rw [hd] at h; cases h
        | ok ds' k' =>
          rw [hd] at h
          cases h
          obtain ⟨h1, h2, h3⟩ := docsL_le s r _ _ _ _ hd
          refine ⟨by omega, by simp [h2], fun i => ?_⟩
          cases i with
          | zero => rfl
          | succ i => exact h3 i
    · cases hd : docsL s (some t) r j with
      | bad a => rw [hd] at h; cases h
      | ok ds' k' =>
        rw [hd] at h
        cases h
        obtain ⟨h1, h2, h3⟩ := docsL_le s r _ _ _ _ hd
        refine ⟨by omega, by simp [h2], fun i => ?_⟩
        cases i with
        | zero => rfl
        | succ i => exact h3 i
theorem hereB_shift (c : Nat) (prev : Option Tok) (t : Tok) : hereB (prev.map (shiftT c)) (shiftT c t) = hereB prev t := by cases prev <;> rfl
theorem stripB_shift (c : Nat) (prev : Option Tok) : stripB (prev.map (shiftT c)) = stripB prev := by cases prev <;> rfl
/-- documents further on, with other bytes behind -/
theorem docsL_loc {u : List UInt8} (hu : EndNL u) (a r b : List UInt8) : ∀ (ts : List Tok) (prev : Option Tok) (j : Nat) (ds : List Tok) (k : Nat), docsL (u ++ r) prev ts j = .ok ds k → k ≤ u.length →
    docsL (a ++ (u ++ b)) (prev.map (shiftT a.length)) (ts.map (shiftT a.length)) (j + a.length) = .ok (ds.map (shiftT a.length)) (k + a.length)
  | [], prev, j, ds, k, h, _ => by cases h; rfl
  | t :: q, prev, j, ds, k, h, hk => by
    rw [docsL] at h
    rw [List.map_cons, docsL, hereB_shift, stripB_shift]
    split at h
    · rename_i h1
      rw [if_pos h1]
      split at h
      · cases h
      · rename_i x hx
        cases hd : docsL (u ++ r) (some t) q (j + x.2) with
        | bad a => rw [hd] at h; cases h
        | ok ds' k' =>
          rw [hd] at h
          cases h
          have hle := (docsL_le _ _ _ _ _ _ hd).1
          have hx1 : 1 ≤ x.2 := docL_pos _ _ _ _ _ hx
          have hj : j < u.length := by omega
          rw [List.drop_append_of_le_length (by omega)] at hx
          have hx2 : docP (stripB prev) (bareP t.text) (u.drop j ++ b) = some x := docL_loc _ _ _ _ (u.drop j) r b x (endNL_drop hu hj) (by rw [List.length_append]; omega) hx (by rw [List.length_drop]; omega)
          have hdr : (a ++ (u ++ b)).drop (j + a.length) = u.drop j ++ b := by
            rw [Nat.add_comm, List.drop_append, List.drop_of_length_le (by omega), List.nil_append, Nat.add_sub_cancel_left, List.drop_append_of_le_length (by omega)]
          have ih := docsL_loc hu a r b q (some t) (j + x.2) ds' k hd hk
          rw [hdr, show bareP (shiftT a.length t).text = bareP t.text from rfl, hx2]
          show (docsL _ (some (shiftT a.length t)) _ (j + a.length + x.2)).app _ = _
          rw [show j + a.length + x.2 = j + x.2 + a.length by omega]
          rw [Option.map_some] at ih
          rw [ih]
          rfl
    · rename_i h1
      rw [if_neg h1]
      cases hd : docsL (u ++ r) (some t) q j with
      | bad a => rw [hd] at h; cases h
      | ok ds' k' =>
        rw [hd] at h
        cases h
        have ih := docsL_loc hu a r b q (some t) j ds' k hd hk
        rw [Option.map_some] at ih
        rw [ih]
        rfl
theorem endNL_take {s : List UInt8} {k : Nat} (h1 : 1 ≤ k) (h2 : k ≤ s.length) (h3 : nth s (k - 1) 0 = 10) : EndNL (s.take k) := by
  have hl : (s.take k).length = k := by rw [List.length_take]; omega
  refine ⟨List.ne_nil_of_length_pos (by omega), ?_⟩
  rw [hl, ← h3]
  unfold nth
  rw [List.getD_eq_getElem?_getD, List.getD_eq_getElem?_getD, List.getElem?_take, if_pos (by omega)]
/-- the whole line, read elsewhere -/
theorem line_ahead {s a b : List UInt8} (h : (lineP s 0).err = 0) (hn : (lineP s 0).toks ≠ []) (h3 : (nth (lineP s 0).toks ((lineP s 0).toks.length - 1) tok0).kind = 3) (hb : nth s ((lineP s 0).fin - 1) 0 = 10) (hs : s.length + a.length + b.length ≤ 65536) :
    lineP (a ++ s.take (lineP s 0).fin ++ b) a.length = ⟨(lineP s 0).toks.map (shiftT a.length), (lineP s 0).fin + a.length, 0, 0⟩ := by
  obtain ⟨hst1, hst2⟩ := stand_len (stands h)
  obtain ⟨_, _, _, ts, k, ds, j, e1, e2, e3⟩ := lineP_ok h
  rw [e3] at hn h3 hb hst1 hst2 ⊢
  change ds ≠ [] at hn
  change (nth ds (ds.length - 1) tok0).kind = 3 at h3
  change nth s (j - 1) 0 = 10 at hb
  change 0 + ds.length ≤ j at hst1
  change j ≤ s.length at hst2
  simp only [Int.toNat_zero, List.drop_zero, Nat.zero_add] at e1 e2
  obtain ⟨d1, d2, d3⟩ := docsL_le _ _ _ _ _ _ e2
  have hp := List.length_pos_iff.2 hn
  have hts : ts ≠ [] := fun e => by rw [e] at d2; simp at d2; exact hn d2
  rw [d3, d2] at h3
  obtain ⟨k1, k2⟩ := lineL_nl _ _ _ _ _ e1 hts h3
  have hu1 := endNL_take (s := s) k1 (by omega) k2
  have hu2 := endNL_take (s := s) (k := j) (by omega) hst2 hb
  have hl2 : (s.take j).length = j := by rw [List.length_take]; omega
  have hl1 : (s.take k).length = k := by rw [List.length_take]; omega
  show lineP (a ++ s.take j ++ b) a.length = ⟨ds.map (shiftT a.length), j + a.length, 0, 0⟩
  have hlen : (a ++ s.take j ++ b).length = a.length + j + b.length := by rw [List.length_append, List.length_append, hl2]
  unfold lineP
  rw [if_neg (by rw [hlen]; omega), if_neg (by rw [hlen]; omega), Int.toNat_natCast]
  unfold lineAt
  have hdr : (a ++ s.take j ++ b).drop a.length = s.take k ++ ((s.take j).drop k ++ b) := by
    rw [List.append_assoc, List.drop_left, ← List.append_assoc]
    congr 1
    conv => lhs; rw [← List.take_append_drop k (s.take j)]
    rw [List.take_take, Nat.min_eq_left d1]
  rw [← List.take_append_drop k s] at e1
  have f1 := lineL_loc _ ((a ++ s.take j ++ b).length + 1) 0 a.length (s.take k) _ ((s.take j).drop k ++ b) ts k hu1 (by rw [hl1, hlen]; omega) e1 hts h3 hl1.symm
  rw [Nat.zero_add] at f1
  rw [hdr, f1]
  rw [← List.take_append_drop j s] at e2
  have f2 := docsL_loc hu2 a (s.drop j) b ts none k ds j e2 (by omega)
  rw [Option.map_none, ← List.append_assoc] at f2
  show (match docsL (a ++ s.take j ++ b) none (ts.map (shiftT a.length)) (a.length + k) with
    | .bad x => (⟨[], 0, x, 54⟩ : LineV)
    | .ok ds j => ⟨ds, j, 0, 0⟩) = _
  rw [Nat.add_comm a.length k, f2]
end Go.Tri
namespace Go.Tri
open Go.RowKit
theorem lineP_len (s : List UInt8) : (lineP s 0).toks.length ≤ (lineP s 0).fin ∧ (lineP s 0).fin ≤ s.length := by
  by_cases h : (lineP s 0).err = 0
  · have := stand_len (stands h)
    omega
  · obtain ⟨h1, h2⟩ := lineP_err h
    rw [h1, h2]
    exact ⟨Nat.le_refl _, Nat.zero_le _⟩
end Go.Tri
namespace Go.Tri
open Go.RowKit
theorem stand_pos {s : List UInt8} : ∀ {l : List Tok} {a e : Nat}, StandP s a l e → ∀ i, i < l.length → (nth l i tok0).pos ≤ s.length
  | [], a, e, _, i, hi => absurd hi (Nat.not_lt_zero _)
  | t :: r, a, e, h, i, hi => by
    obtain ⟨⟨h1, h2, h3, h4, _⟩, h5⟩ := h
    cases i with
    | zero => show t.pos ≤ _; omega
    | succ i => exact stand_pos h5 i (by simpa using hi)
end Go.Tri
