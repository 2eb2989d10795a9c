/-
  The reference: names, quotes, lines.
-/
import Derived.Test.YtigfpkcaakkgaaaDoorOA2
namespace Go.Tri
open Go.Proofs Go.RowKit
/-- what the reference's Lines holds at i: the last line began at a -/
def LnAt (s : List UInt8) (a i : Nat) (l : List (List UInt8)) : Prop := a ≤ i ∧ i ≤ s.length ∧ l = linesB (s.take a) ∧ (a ≠ 0 → nth s (a - 1) 0 = 10) ∧ 10 ∉ (s.drop a).take (i - a)
theorem LnAt.start (s : List UInt8) : LnAt s 0 0 [] := ⟨Nat.le_refl _, Nat.zero_le _, rfl, fun h => absurd rfl h, by simp⟩
theorem take_end {s : List UInt8} {a : Nat} (ha : a ≤ s.length) (h : a ≠ 0 → nth s (a - 1) 0 = 10) : s.take a ≠ [] → nth (s.take a) ((s.take a).length - 1) 0 = 10 := fun hn => by
  have h0 : a ≠ 0 := fun e => hn (by rw [e]; rfl)
  rw [← h h0]
  have hl : (s.take a).length = a := by simp; omega
  rw [hl]
  unfold nth
  rw [List.getD_eq_getElem?_getD, List.getD_eq_getElem?_getD, List.getElem?_take, if_pos (by omega)]
theorem LnAt.hit {s : List UInt8} {a i : Nat} {l : List (List UInt8)} (h : LnAt s a i l) (hi : i < s.length) (hc : nth s i 0 = 10) : LnAt s (i + 1) (i + 1) (l ++ [(s.drop a).take (i + 1 - a)]) := by
  obtain ⟨h1, h2, h3, h4, h5⟩ := h
  refine ⟨Nat.le_refl _, hi, ?_, fun _ => hc, by simp⟩
  have e : (s.drop a).take (i + 1 - a) = (s.drop a).take (i - a) ++ [10] := by
    rw [show i + 1 - a = (i - a) + 1 by omega, take_nth 0 (by rw [List.length_drop]; omega)]
    congr 2
    rw [← hc]
    unfold nth
    rw [List.getD_eq_getElem?_getD, List.getD_eq_getElem?_getD, List.getElem?_drop]
    congr 2; omega
  have e2 : s.take (i + 1) = s.take a ++ (s.drop a).take (i + 1 - a) := by
    rw [show i + 1 = a + (i + 1 - a) by omega, List.take_add]; congr 2; omega
  rw [e2, lines_app _ _ _ (Nat.le_refl _) (take_end (by omega) h4), ← h3, e]
  congr 1
  exact (lines_line (r := []) h5).symm
theorem LnAt.miss {s : List UInt8} {a i : Nat} {l : List (List UInt8)} (h : LnAt s a i l) (hi : i < s.length) (hc : ¬ nth s i 0 = 10) : LnAt s a (i + 1) l := by
  obtain ⟨h1, h2, h3, h4, h5⟩ := h
  refine ⟨by omega, hi, h3, h4, ?_⟩
  rw [show i + 1 - a = (i - a) + 1 by omega, take_nth 0 (by rw [List.length_drop]; omega), List.mem_append, not_or]
  refine ⟨h5, ?_⟩
  rw [List.mem_singleton]
  intro e
  apply hc
  rw [e]
  unfold nth
  rw [List.getD_eq_getElem?_getD, List.getD_eq_getElem?_getD, List.getElem?_drop]
  congr 2; omega
theorem LnAt.rest {s : List UInt8} {a : Nat} {l : List (List UInt8)} (h : LnAt s a s.length l) : (a < s.length → linesB s = l ++ [s.drop a]) ∧ (¬ a < s.length → linesB s = l) := by
  obtain ⟨h1, h2, h3, h4, h5⟩ := h
  constructor
  · intro ha
    have h6 : (s.drop a).take (s.length - a) = s.drop a := List.take_of_length_le (by simp)
    rw [h6] at h5
    conv => lhs; rw [← List.take_append_drop a s]
    rw [lines_app _ _ _ (Nat.le_refl _) (take_end (by omega) h4), ← h3, lines_last _ h5]
    exact List.ne_nil_of_length_pos (by rw [List.length_drop]; omega)
  · intro ha
    rw [h3, List.take_of_length_le (by omega)]
theorem LnAt.len {s : List UInt8} {a i : Nat} {l : List (List UInt8)} (h : LnAt s a i l) : l.length ≤ i := by
  obtain ⟨h1, h2, h3, h4, h5⟩ := h
  rw [h3]
  have := lines_len _ (s.take a) (Nat.le_refl _)
  simp at this; omega
theorem okNr (s : List UInt8) (i : Nat) : (!letterB (nth s i 0) && (decide ((i : Int) = 0) || !digitB' (nth s i 0))) = !okN s i := by
  unfold okN
  by_cases h1 : (i : Int) = 0 <;> cases letterB (nth s i 0) <;> cases digitB' (nth s i 0) <;> simp [h1]
theorem plain_step {s : List UInt8} {i : Nat} (h : i < s.length) : (s.take (i + 1)).all plainC = ((s.take i).all plainC && plainC (nth s i 0)) := by
  rw [take_nth 0 h, List.all_append]; simp
theorem hasB_take {l : List UInt8} {k : Nat} (c : UInt8) (h : k < l.length) : hasB (l.take (k + 1)) c = (hasB (l.take k) c || decide (c = nth l k 0)) := by
  unfold hasB
  rw [take_nth 0 h, List.any_append]
  simp only [List.any_cons, List.any_nil, Bool.or_false]
  congr 1
  by_cases e : nth l k 0 = c
  · rw [e]; simp
  · have : ¬ c = nth l k 0 := fun h => e h.symm
    simp [e, this]
theorem one_at {s : List UInt8} {i : Nat} (h : i < s.length) : (s.drop ((i : Int)).toNat).take (((i : Int) + 1).toNat - ((i : Int)).toNat) = [nth s i 0] := by
  rw [show ((i : Int)).toNat = i by omega, show (((i : Int) + 1).toNat - i) = 1 by omega, drop_nth 0 h]; rfl
set_option maxRecDepth 10000 in
theorem rletter_pure (c : UInt8) (w : World) : Pure Tryd.prog 30 [u8 c] w (.bool (letterB c)) := by
  refine enter Tryd.func30 rfl Tryd.ntmps30 rfl (St.start w (look w) (Le.refl _)) ?_
  refine t_seq ?_
  refine t_region ?_
  refine l_q rfl rfl rfl (q_assign rfl rfl) ?_
  refine l_nil ?_
  refine n_then ?_
  refine t_seq ?_
  refine t_qreg ?_
  refine s_q rfl rfl rfl (q_move rfl rfl) ?_
  refine s_q rfl rfl rfl (q_geq rfl rfl rfl) ?_
  refine s_q rfl rfl rfl (q_move rfl rfl) ?_
  refine s_and2 2 2 5 8 7 _ _ rfl rfl rfl rfl rfl rfl (fun h8 => by
      try simp at h8
      refine s_g rfl rfl rfl rfl rfl rfl (q_move rfl rfl) ?_
      refine s_g rfl rfl rfl rfl rfl rfl (q_leq rfl rfl rfl) ?_
      exact s_val rfl
    ) (wanted_n rfl) rfl rfl rfl ?_
  refine s_q rfl rfl rfl (q_move rfl rfl) ?_
  refine s_or2 6 6 9 16 15 _ _ rfl rfl rfl rfl rfl rfl (fun h16 => by
      try simp at h16
      refine s_g rfl rfl rfl rfl rfl rfl (q_move rfl rfl) ?_
      refine s_g rfl rfl rfl rfl rfl rfl (q_geq rfl rfl rfl) ?_
      refine s_g rfl rfl rfl rfl rfl rfl (q_move rfl rfl) ?_
      refine s_and2 2 9 12 15 14 _ _ rfl rfl rfl rfl rfl rfl (fun h15 => by
          try simp at h15
          refine s_g rfl rfl rfl rfl rfl rfl (q_move rfl rfl) ?_
          refine s_g rfl rfl rfl rfl rfl rfl (q_leq rfl rfl rfl) ?_
          exact s_val rfl
        ) (wanted_g rfl rfl rfl rfl) rfl rfl rfl ?_
      exact s_val rfl
    ) (wanted_n rfl) rfl rfl rfl ?_
  refine s_q rfl rfl rfl (q_move rfl rfl) ?_
  refine s_or2 2 14 17 20 19 _ _ rfl rfl rfl rfl rfl rfl (fun h20 => by
      try simp at h20
      refine s_g rfl rfl rfl rfl rfl rfl (q_move rfl rfl) ?_
      refine s_g rfl rfl rfl rfl rfl rfl (q_eql_u8c rfl rfl rfl rfl) ?_
      exact s_val rfl
    ) (wanted_n rfl) rfl rfl rfl ?_
  refine s_q rfl rfl rfl (q_assign rfl rfl) ?_
  refine s_done ?_
  refine n_then ?_
  refine t_ret ?_
  refine n_ret1 rfl rfl (fun w' hw => ?_)
  -- leaf 0
  refine ⟨?_, hw.below⟩
  rfl
set_option maxRecDepth 10000 in
theorem rdigit_pure (c : UInt8) (w : World) : Pure Tryd.prog 31 [u8 c] w (.bool (digitB' c)) := by
  refine enter Tryd.func31 rfl Tryd.ntmps31 rfl (St.start w (look w) (Le.refl _)) ?_
  refine t_seq ?_
  refine t_region ?_
  refine l_q rfl rfl rfl (q_assign rfl rfl) ?_
  refine l_nil ?_
  refine n_then ?_
  refine t_seq ?_
  refine t_qreg ?_
  refine s_q rfl rfl rfl (q_move rfl rfl) ?_
  refine s_q rfl rfl rfl (q_geq rfl rfl rfl) ?_
  refine s_q rfl rfl rfl (q_move rfl rfl) ?_
  refine s_and2 2 2 5 8 7 _ _ rfl rfl rfl rfl rfl rfl (fun h8 => by
      try simp at h8
      refine s_g rfl rfl rfl rfl rfl rfl (q_move rfl rfl) ?_
      refine s_g rfl rfl rfl rfl rfl rfl (q_leq rfl rfl rfl) ?_
      exact s_val rfl
    ) (wanted_n rfl) rfl rfl rfl ?_
  refine s_q rfl rfl rfl (q_assign rfl rfl) ?_
  refine s_done ?_
  refine n_then ?_
  refine t_ret ?_
  refine n_ret1 rfl rfl (fun w' hw => ?_)
  -- leaf 0
  refine ⟨?_, hw.below⟩
  rfl
set_option maxRecDepth 10000 in
theorem rname_pure (s : List UInt8) (w : World) (hs : s.length ≤ 4611686018427387904) : Pure Tryd.prog 16 [str s] w (.bool (nameB s)) := by
  refine enter Tryd.func16 rfl Tryd.ntmps16 rfl (St.start w (look w) (Le.refl _)) ?_
  refine t_seq ?_
  refine t_region ?_
  refine l_q rfl rfl rfl (q_assign rfl rfl) ?_
  refine l_nil ?_
  refine n_then ?_
  refine t_seq ?_
  refine t_seq ?_
  refine t_region ?_
  refine l_q rfl rfl rfl (q_assign rfl rfl) ?_
  refine l_nil ?_
  refine n_then ?_
  refine t_block ?_
  refine t_loopE (ι := Nat) (fun i => i ≤ s.length ∧ ∀ k, k < i → okN s k = true) (fun i => s.length - i) (fun i => [(3, .int .i64 (i : Int))]) [(0, _)] (fun i => look w) (fun i => []) 0 ?_ (sub_cons rfl sub_nil) (sub_cons rfl sub_nil) (fun _ h => subC_st h) ?_
  · try dsimp only
    exact ⟨Nat.zero_le _, fun k hk => absurd hk (Nat.not_lt_zero _)⟩
  rintro i ⟨hi, hok⟩
  refine t_seq ?_
  refine t_seq ?_
  refine t_region ?_
  refine l_q rfl rfl rfl (q_move rfl rfl) ?_
  refine l_q rfl rfl rfl (q_move rfl rfl) ?_
  refine l_q rfl rfl rfl (q_len_str rfl Tryd.underlying9 rfl) ?_
  refine l_q rfl rfl rfl (q_lss rfl rfl rfl) ?_
  refine l_nil ?_
  refine n_then ?_
  refine t_cond rfl (fun hc0 => ?_) (fun hc0 => ?_)
  · skip
    try simp at hc0
    refine t_skip ?_
    refine n_then ?_
    refine t_seq ?_
    refine t_block ?_
    refine t_seq ?_
    refine t_qreg ?_
    refine s_q rfl rfl rfl (q_move rfl rfl) ?_
    refine s_q rfl rfl rfl (q_move rfl rfl) ?_
    refine s_q rfl rfl rfl ((by first | exact q_index_strN rfl Tryd.underlying9 rfl rfl (by omega) | exact q_index_str rfl Tryd.underlying9 rfl rfl (by omega))) ?_
    refine s_q rfl rfl rfl (quiet_call rfl rfl rfl Tryd.func30 (by kernel_rfl) rfl ((fun w _ => rletter_pure _ w))) ?_
    refine s_q rfl rfl rfl (q_not rfl rfl) ?_
    refine s_q rfl rfl rfl (q_move rfl rfl) ?_
    refine s_and2 9 5 15 25 24 _ _ rfl rfl rfl rfl rfl rfl (fun h25 => by
        try simp at h25
        refine s_g rfl rfl rfl rfl rfl rfl (q_move rfl rfl) ?_
        refine s_g rfl rfl rfl rfl rfl rfl (q_eql rfl rfl rfl) ?_
        refine s_g rfl rfl rfl rfl rfl rfl (q_move rfl rfl) ?_
        refine s_or2 5 8 18 24 23 _ _ rfl rfl rfl rfl rfl rfl (fun h24 => by
            try simp at h24
            refine s_g rfl rfl rfl rfl rfl rfl (q_move rfl rfl) ?_
            refine s_g rfl rfl rfl rfl rfl rfl (q_move rfl rfl) ?_
            refine s_g rfl rfl rfl rfl rfl rfl ((by first | exact q_index_strN rfl Tryd.underlying9 rfl rfl (by omega) | exact q_index_str rfl Tryd.underlying9 rfl rfl (by omega))) ?_
            refine s_g rfl rfl rfl rfl rfl rfl (quiet_call rfl rfl rfl Tryd.func31 (by kernel_rfl) rfl ((fun w _ => rdigit_pure _ w))) ?_
            refine s_g rfl rfl rfl rfl rfl rfl (q_not rfl rfl) ?_
            exact s_val rfl
          ) (wanted_g rfl rfl rfl rfl) rfl rfl rfl ?_
        exact s_val rfl
      ) (wanted_n rfl) rfl rfl rfl ?_
    refine s_done ?_
    refine n_then ?_
    refine t_cond rfl (fun hc1 => ?_) (fun hc1 => ?_)
    · skip
      have hokk : okN s i = false := by have := okNr s i; rw [show _ = true from hc1] at this; simpa using this
      refine t_seq ?_
      refine t_region ?_
      refine l_q rfl rfl rfl (q_assign rfl rfl) ?_
      refine l_nil ?_
      refine n_then ?_
      refine t_ret ?_
      refine n_ret_block ?_
      refine n_ret_then ?_
      refine n_ret_then ?_
      refine n_ret_block ?_
      refine n_ret_then ?_
      refine n_ret1 rfl rfl (fun w' hw => ?_)
      -- leaf 0
      refine ⟨?_, hw.below⟩
      rw [nameB_false (by omega) hokk]
    · skip
      have hokk : okN s i = true := by have := okNr s i; rw [show _ = false from hc1] at this; simpa using this
      refine t_skip ?_
      refine n_block ?_
      refine n_then ?_
      refine t_region ?_
      refine l_q rfl rfl rfl (q_move rfl rfl) ?_
      refine l_q rfl rfl rfl (q_add64 rfl rfl rfl (by omega)) ?_
      refine l_q rfl rfl rfl (q_assign rfl rfl) ?_
      refine l_nil ?_
      refine n_roundE (i + 1) ?_ ?_ (sub_cons rfl sub_nil) (sub_cons rfl sub_nil) (fun _ h => by try dsimp only; exact subC_st h)
      · try dsimp only
        refine ⟨by omega, fun k hk => ?_⟩
        rcases Nat.lt_succ_iff_lt_or_eq.1 hk with h | rfl
        · exact hok k h
        · exact hokk
      · try dsimp only
        omega
  · skip
    try simp at hc0
    refine t_exit ?_
    refine n_exit_then ?_
    refine n_exit_then ?_
    refine n_exit_block ?_
    refine n_then ?_
    refine t_seq ?_
    refine t_region ?_
    refine l_q rfl rfl rfl (q_move rfl rfl) ?_
    refine l_q rfl rfl rfl (q_neq_str rfl rfl rfl) ?_
    refine l_q rfl rfl rfl (q_assign rfl rfl) ?_
    refine l_nil ?_
    refine n_then ?_
    refine t_ret ?_
    refine n_ret1 rfl rfl (fun w' hw => ?_)
    -- leaf 1
    refine ⟨?_, hw.below⟩
    rw [nameB_all fun k hk => hok k (by omega)]
set_option maxRecDepth 10000 in
theorem rquote_pure (s : List UInt8) (w : World) (hs : s.length ≤ 1000000000) : Pure Tryd.prog 18 [str s] w (str (quoteB s)) := by
  refine enter Tryd.func18 rfl Tryd.ntmps18 rfl (St.start w (look w) (Le.refl _)) ?_
  refine t_seq ?_
  refine t_region ?_
  refine l_q rfl rfl rfl (q_assign rfl rfl) ?_
  refine l_nil ?_
  refine n_then ?_
  refine t_seq ?_
  refine t_region ?_
  refine l_q rfl rfl rfl (q_move rfl rfl) ?_
  refine l_q rfl rfl rfl (q_neq_str rfl rfl rfl) ?_
  refine l_q rfl rfl rfl (q_assign rfl rfl) ?_
  refine l_nil ?_
  refine n_then ?_
  refine t_seq ?_
  refine t_region ?_
  refine l_q rfl rfl rfl (q_assign rfl rfl) ?_
  refine l_nil ?_
  refine n_then ?_
  refine t_seq ?_
  refine t_seq ?_
  refine t_region ?_
  refine l_q rfl rfl rfl (q_assign rfl rfl) ?_
  refine l_nil ?_
  refine n_then ?_
  refine t_block ?_
  refine t_loopE (ι := Nat × Bool × List UInt8) (fun zz => zz.1 ≤ s.length ∧ zz.2.1 = (decide (s ≠ []) && (s.take zz.1).all plainC) ∧ zz.2.2 = escB (s.take zz.1)) (fun zz => s.length - zz.1) (fun zz => [(5, .int .i64 (zz.1 : Int)), (3, .bool zz.2.1), (4, str zz.2.2)]) [(0, _), (2, _)] (fun zz => look w) (fun zz => []) (0, decide (s ≠ []), []) ?_ (sub_cons rfl (sub_cons rfl (sub_cons rfl sub_nil))) (sub_cons rfl (sub_cons rfl sub_nil)) (fun _ h => subC_st h) ?_
  · try dsimp only
    exact ⟨Nat.zero_le _, by simp, rfl⟩
  rintro ⟨i, pl, t⟩ ⟨hi, hpl, ht⟩
  try dsimp only at *
  have htl : t.length ≤ 4 * i := by rw [ht]; have := escB_len (s.take i); simp at this; omega
  refine t_seq ?_
  refine t_seq ?_
  refine t_region ?_
  refine l_q rfl rfl rfl (q_move rfl rfl) ?_
  refine l_q rfl rfl rfl (q_move rfl rfl) ?_
  refine l_q rfl rfl rfl (q_len_str rfl Tryd.underlying9 rfl) ?_
  refine l_q rfl rfl rfl (q_lss rfl rfl rfl) ?_
  refine l_nil ?_
  refine n_then ?_
  refine t_cond rfl (fun hc0 => ?_) (fun hc0 => ?_)
  · skip
    try simp at hc0
    refine t_skip ?_
    refine n_then ?_
    refine t_seq ?_
    refine t_block ?_
    refine t_seq ?_
    refine t_region ?_
    refine l_q rfl rfl rfl (q_move rfl rfl) ?_
    refine l_q rfl rfl rfl (q_move rfl rfl) ?_
    refine l_q rfl rfl rfl ((by first | exact q_index_strN rfl Tryd.underlying9 rfl rfl (by omega) | exact q_index_str rfl Tryd.underlying9 rfl rfl (by omega))) ?_
    refine l_q rfl rfl rfl (q_assign rfl rfl) ?_
    refine l_nil ?_
    refine n_then ?_
    refine t_seq ?_
    refine t_qreg ?_
    refine s_q rfl rfl rfl (q_move rfl rfl) ?_
    refine s_q rfl rfl rfl (quiet_call rfl rfl rfl Tryd.func30 (by kernel_rfl) rfl ((fun w _ => rletter_pure _ w))) ?_
    refine s_q rfl rfl rfl (q_move rfl rfl) ?_
    refine s_or2 2 2 22 25 24 _ _ rfl rfl rfl rfl rfl rfl (fun h25 => by
        try simp at h25
        refine s_g rfl rfl rfl rfl rfl rfl (q_move rfl rfl) ?_
        refine s_g rfl rfl rfl rfl rfl rfl (quiet_call rfl rfl rfl Tryd.func31 (by kernel_rfl) rfl ((fun w _ => rdigit_pure _ w))) ?_
        exact s_val rfl
      ) (wanted_n rfl) rfl rfl rfl ?_
    refine s_q rfl rfl rfl (q_assign rfl rfl) ?_
    refine s_done ?_
    refine n_then ?_
    refine t_seq ?_
    refine t_seq ?_
    refine t_region ?_
    refine l_q rfl rfl rfl (q_assign rfl rfl) ?_
    refine l_nil ?_
    refine n_then ?_
    refine t_block ?_
    refine t_loopE (ι := Nat × Bool) (fun zz => zz.1 ≤ 9 ∧ zz.2 = (letterB (nth s i 0) || digitB' (nth s i 0) || hasB (oddText.take zz.1) (nth s i 0))) (fun zz => 9 - zz.1) (fun zz => [(8, .int .i64 (zz.1 : Int)), (7, .bool zz.2)]) [(5, _), (3, _), (4, _), (0, _), (2, _), (14, _), (6, _)] (fun zz => look w) (fun zz => []) (0, letterB (nth s i 0) || digitB' (nth s i 0)) ?_ (sub_cons rfl (sub_cons rfl sub_nil)) (sub_cons rfl (sub_cons rfl (sub_cons rfl (sub_cons rfl (sub_cons rfl (sub_cons rfl (sub_cons rfl sub_nil))))))) (fun _ h => subC_st h) ?_
    · try dsimp only
      exact ⟨Nat.zero_le _, by simp [hasB]⟩
    rintro ⟨k, ok⟩ ⟨hk, hok⟩
    try dsimp only at *
    have h9 : oddText.length = 9 := rfl
    have h9b : ([45, 46, 47, 58, 61, 43, 44, 64, 37] : List UInt8).length = 9 := rfl
    refine t_seq ?_
    refine t_seq ?_
    refine t_region ?_
    refine l_q rfl rfl rfl (q_move rfl rfl) ?_
    refine l_q rfl rfl rfl (q_lss rfl rfl rfl) ?_
    refine l_nil ?_
    refine n_then ?_
    refine t_cond rfl (fun hc1 => ?_) (fun hc1 => ?_)
    · skip
      try simp at hc1
      refine t_skip ?_
      refine n_then ?_
      refine t_seq ?_
      refine t_block ?_
      refine t_qreg ?_
      refine s_q rfl rfl rfl (q_move rfl rfl) ?_
      refine s_q rfl rfl rfl (q_move rfl rfl) ?_
      refine s_or2 4 1 31 36 35 _ _ rfl rfl rfl rfl rfl rfl (fun h36 => by
          try simp at h36
          refine s_g rfl rfl rfl rfl rfl rfl (q_move rfl rfl) ?_
          refine s_g rfl rfl rfl rfl rfl rfl (q_move rfl rfl) ?_
          refine s_g rfl rfl rfl rfl rfl rfl ((by first | exact q_index_strN rfl Tryd.underlying9 rfl rfl (by omega) | exact q_index_str rfl Tryd.underlying9 rfl rfl (by omega))) ?_
          refine s_g rfl rfl rfl rfl rfl rfl (q_eql_u8 rfl rfl rfl) ?_
          exact s_val rfl
        ) (wanted_n rfl) rfl rfl rfl ?_
      refine s_q rfl rfl rfl (q_assign rfl rfl) ?_
      refine s_done ?_
      refine n_block ?_
      refine n_then ?_
      refine t_region ?_
      refine l_q rfl rfl rfl (q_move rfl rfl) ?_
      refine l_q rfl rfl rfl (q_add64 rfl rfl rfl (by omega)) ?_
      refine l_q rfl rfl rfl (q_assign rfl rfl) ?_
      refine l_nil ?_
      refine n_roundE ((k + 1, ok || decide (nth s i 0 = nth oddText k 0))) ?_ ?_ (sub_cons rfl (sub_cons rfl sub_nil)) (sub_cons rfl (sub_cons rfl (sub_cons rfl (sub_cons rfl (sub_cons rfl (sub_cons rfl (sub_cons rfl sub_nil))))))) (fun _ h => by try dsimp only; exact subC_st h)
      · try dsimp only
        refine ⟨by omega, ?_⟩
        rw [hok, hasB_take _ (by omega), Bool.or_assoc]
      · try dsimp only
        omega
    · skip
      try simp at hc1
      have hokp : ok = plainC (nth s i 0) := by rw [hok, List.take_of_length_le (by omega)]; rfl
      subst hokp
      refine t_exit ?_
      refine n_exit_then ?_
      refine n_exit_then ?_
      refine n_exit_block ?_
      refine n_then ?_
      refine t_seq ?_
      refine t_qreg ?_
      refine s_q rfl rfl rfl (q_move rfl rfl) ?_
      refine s_q rfl rfl rfl (q_move rfl rfl) ?_
      refine s_and2 1 1 38 40 39 _ _ rfl rfl rfl rfl rfl rfl (fun h40 => by
          try simp at h40
          refine s_g rfl rfl rfl rfl rfl rfl (q_move rfl rfl) ?_
          exact s_val rfl
        ) (wanted_n rfl) rfl rfl rfl ?_
      refine s_q rfl rfl rfl (q_assign rfl rfl) ?_
      refine s_done ?_
      refine n_then ?_
      refine t_seq ?_
      refine t_region ?_
      refine l_q rfl rfl rfl (q_move rfl rfl) ?_
      refine l_q rfl rfl rfl (q_eql_u8c rfl rfl rfl rfl) ?_
      refine l_nil ?_
      refine n_then ?_
      refine t_cond rfl (fun hc2 => ?_) (fun hc2 => ?_)
      · skip
        simp only [decide_eq_true_eq, decide_eq_false_iff_not] at hc2
        have hc2 : nth s i 0 = 39 := hc2
        refine t_region ?_
        refine l_q rfl rfl rfl (q_move rfl rfl) ?_
        refine l_q rfl rfl rfl (q_cat rfl rfl rfl (by first | omega | (simp only [List.length_append, List.length_cons, List.length_nil, List.length_take, List.length_drop]; omega))) ?_
        refine l_q rfl rfl rfl (q_assign rfl rfl) ?_
        refine l_nil ?_
        refine n_block ?_
        refine n_then ?_
        refine t_region ?_
        refine l_q rfl rfl rfl (q_move rfl rfl) ?_
        refine l_q rfl rfl rfl (q_add64 rfl rfl rfl (by omega)) ?_
        refine l_q rfl rfl rfl (q_assign rfl rfl) ?_
        refine l_nil ?_
        refine n_roundE ((i + 1, pl && plainC (nth s i 0), t ++ [39, 92, 39, 39])) ?_ ?_ (sub_cons rfl (sub_cons rfl (sub_cons rfl sub_nil))) (sub_cons rfl (sub_cons rfl sub_nil)) (fun _ h => by try dsimp only; exact subC_st h)
        · try dsimp only
          refine ⟨by omega, by rw [hpl, plain_step (by omega), Bool.and_assoc], ?_⟩
          rw [ht, take_nth 0 (by omega), escB_snoc, escC, if_pos hc2]
        · try dsimp only
          omega
      · skip
        simp only [decide_eq_true_eq, decide_eq_false_iff_not] at hc2
        have hc2 : ¬ nth s i 0 = 39 := hc2
        refine t_region ?_
        refine l_q rfl rfl rfl (q_move rfl rfl) ?_
        refine l_q rfl rfl rfl (q_move rfl rfl) ?_
        refine l_q rfl rfl rfl (q_move rfl rfl) ?_
        refine l_q rfl rfl rfl (q_move rfl rfl) ?_
        refine l_q rfl rfl rfl (q_add64 rfl rfl rfl (by omega)) ?_
        refine l_q rfl rfl rfl (q_slice_str rfl Tryd.underlying9 rfl rfl rfl (by omega)) ?_
        refine l_q rfl rfl rfl (q_cat rfl rfl rfl (by first | omega | (simp only [List.length_append, List.length_cons, List.length_nil, List.length_take, List.length_drop]; omega))) ?_
        refine l_q rfl rfl rfl (q_assign rfl rfl) ?_
        refine l_nil ?_
        refine n_block ?_
        refine n_then ?_
        refine t_region ?_
        refine l_q rfl rfl rfl (q_move rfl rfl) ?_
        refine l_q rfl rfl rfl (q_add64 rfl rfl rfl (by omega)) ?_
        refine l_q rfl rfl rfl (q_assign rfl rfl) ?_
        refine l_nil ?_
        refine n_roundE ((i + 1, pl && plainC (nth s i 0), t ++ [nth s i 0])) ?_ ?_ (sub_cons rfl (sub_cons rfl (sub_cons' rfl (by rw [one_at (by omega)]) (sub_nil)))) (sub_cons rfl (sub_cons rfl sub_nil)) (fun _ h => by try dsimp only; exact subC_st h)
        · try dsimp only
          refine ⟨by omega, by rw [hpl, plain_step (by omega), Bool.and_assoc], ?_⟩
          rw [ht, take_nth 0 (by omega), escB_snoc, escC, if_neg hc2]
        · try dsimp only
          omega
  · skip
    try simp at hc0
    refine t_exit ?_
    refine n_exit_then ?_
    refine n_exit_then ?_
    refine n_exit_block ?_
    refine n_then ?_
    refine t_seq ?_
    refine t_seq ?_
    refine t_region ?_
    refine l_q rfl rfl rfl (q_move rfl rfl) ?_
    refine l_nil ?_
    refine n_then ?_
    refine t_cond rfl (fun hc3 => ?_) (fun hc3 => ?_)
    · skip
      refine t_seq ?_
      refine t_region ?_
      refine l_q rfl rfl rfl (q_move rfl rfl) ?_
      refine l_q rfl rfl rfl (q_assign rfl rfl) ?_
      refine l_nil ?_
      refine n_then ?_
      refine t_ret ?_
      refine n_ret_then ?_
      refine n_ret1 rfl rfl (fun w' hw => ?_)
      -- leaf 0
      refine ⟨?_, hw.below⟩
      rw [List.take_of_length_le (by omega)] at hpl
      rw [quoteB, if_pos (by rw [← hpl]; exact hc3)]
    · skip
      refine t_skip ?_
      refine n_then ?_
      refine t_seq ?_
      refine t_region ?_
      refine l_q rfl rfl rfl (q_move rfl rfl) ?_
      refine l_q rfl rfl rfl (q_cat rfl rfl rfl (by first | omega | (simp only [List.length_append, List.length_cons, List.length_nil, List.length_take, List.length_drop]; omega))) ?_
      refine l_q rfl rfl rfl (q_cat rfl rfl rfl (by first | omega | (simp only [List.length_append, List.length_cons, List.length_nil, List.length_take, List.length_drop]; omega))) ?_
      refine l_q rfl rfl rfl (q_assign rfl rfl) ?_
      refine l_nil ?_
      refine n_then ?_
      refine t_ret ?_
      refine n_ret1 rfl rfl (fun w' hw => ?_)
      -- leaf 1
      refine ⟨?_, hw.below⟩
      rw [List.take_of_length_le (by omega)] at hpl ht
      rw [quoteB, if_neg (by rw [← hpl, show pl = false from hc3]; simp), ht]
set_option maxRecDepth 10000 in
theorem rlines_calls (s : List UInt8) (I : Look) (F : List HA) (w0 w : World) (hs : s.length ≤ 1000000000) (hw0 : St w0 I F w) : Calls Tryd.prog 23 [str s].toArray w (fun e w' => ∃ v, e = .returned v ∧ ∃ I' H', (Le I I' ∧ F = H' ∧ Sl I' 1 v ((linesB s).map stC)) ∧ St w I' H' w') := by
  refine enter Tryd.func23 rfl Tryd.ntmps23 rfl (hw0.self) ?_
  refine t_seq ?_
  refine t_region ?_
  refine l_q rfl rfl rfl (q_assign rfl rfl) ?_
  refine l_nil ?_
  refine n_then ?_
  refine t_seq ?_
  refine t_region ?_
  refine l_q rfl rfl rfl (q_assign rfl rfl) ?_
  refine l_nil ?_
  refine n_then ?_
  refine t_seq ?_
  refine t_region ?_
  refine l_q rfl rfl rfl (q_assign rfl rfl) ?_
  refine l_nil ?_
  refine n_then ?_
  refine t_seq ?_
  refine t_seq ?_
  refine t_region ?_
  refine l_q rfl rfl rfl (q_assign rfl rfl) ?_
  refine l_nil ?_
  refine n_then ?_
  refine t_block ?_
  refine t_loopE (ι := Nat × Nat × Value × List (List UInt8)) (fun zz => LnAt s zz.2.1 zz.1 zz.2.2.2) (fun zz => s.length - zz.1) (fun zz => [(5, .int .i64 (zz.1 : Int)), (4, .int .i64 (zz.2.1 : Int)), (3, zz.2.2.1)]) [(0, _), (2, _)] (fun zz => I) (fun zz => (tvec 9 1 stC zz.2.2.1 zz.2.2.2 :: F)) (0, 0, .slice none 0 0, []) ?_ (sub_cons rfl (sub_cons rfl (sub_cons rfl sub_nil))) (sub_cons rfl (sub_cons rfl sub_nil)) (fun _ h => st_nilT 9 1 stC h) ?_
  · try dsimp only
    exact LnAt.start s
  rintro ⟨i, a, vl, l⟩ hln
  try dsimp only at *
  have hll := hln.len
  have hai := hln.1
  have his := hln.2.1
  refine t_seq ?_
  refine t_seq ?_
  refine t_region ?_
  refine l_q rfl rfl rfl (q_move rfl rfl) ?_
  refine l_q rfl rfl rfl (q_move rfl rfl) ?_
  refine l_q rfl rfl rfl (q_len_str rfl Tryd.underlying9 rfl) ?_
  refine l_q rfl rfl rfl (q_lss rfl rfl rfl) ?_
  refine l_nil ?_
  refine n_then ?_
  refine t_cond rfl (fun hc0 => ?_) (fun hc0 => ?_)
  · skip
    try simp at hc0
    refine t_skip ?_
    refine n_then ?_
    refine t_seq ?_
    refine t_block ?_
    refine t_seq ?_
    refine t_region ?_
    refine l_q rfl rfl rfl (q_move rfl rfl) ?_
    refine l_q rfl rfl rfl (q_move rfl rfl) ?_
    refine l_q rfl rfl rfl ((by first | exact q_index_strN rfl Tryd.underlying9 rfl rfl (by omega) | exact q_index_str rfl Tryd.underlying9 rfl rfl (by omega))) ?_
    refine l_q rfl rfl rfl (q_eql_u8c rfl rfl rfl rfl) ?_
    refine l_nil ?_
    refine n_then ?_
    refine t_cond rfl (fun hc1 => ?_) (fun hc1 => ?_)
    · skip
      simp only [decide_eq_true_eq, decide_eq_false_iff_not] at hc1
      refine t_seq ?_
      refine t_region ?_
      refine l_q rfl rfl rfl (q_move rfl rfl) ?_
      refine l_q rfl rfl rfl (q_move rfl rfl) ?_
      refine l_q rfl rfl rfl (q_move rfl rfl) ?_
      refine l_q rfl rfl rfl (q_move rfl rfl) ?_
      refine l_q rfl rfl rfl (q_add64 rfl rfl rfl (by omega)) ?_
      refine l_q rfl rfl rfl (q_slice_str rfl Tryd.underlying9 rfl rfl rfl (by omega)) ?_
      refine l_e rfl rfl rfl (e_buildSlice1 rfl Tryd.underlying36 ti9 rfl rfl rfl (by first | exact One.cells (by assumption) | rfl) rfl) ?_
      rintro _ _ _ ⟨b22, rfl, rfl, rfl⟩
      refine l_e rfl rfl rfl (e_appendT (f := stC) (c := ((s.drop a).take (i + 1 - a))) rfl Tryd.underlying36 ti9 rfl rfl rfl rfl rfl rfl rfl (by first | exact stC_ones _ | exact byC_ones _ | exact chC_ones _ | exact pcC_ones _ | simp [Value.oneCell', str, u8] | exact ones1 (by assumption)) (by simp only [maxLen]; omega) (by omega)) ?_
      rintro v23 _ _ ⟨rfl, rfl⟩
      refine l_q rfl rfl rfl (q_assign rfl rfl) ?_
      refine l_nil ?_
      refine n_then ?_
      refine t_region ?_
      refine l_q rfl rfl rfl (q_move rfl rfl) ?_
      refine l_q rfl rfl rfl (q_add64 rfl rfl rfl (by omega)) ?_
      refine l_q rfl rfl rfl (q_assign rfl rfl) ?_
      refine l_nil ?_
      refine n_block ?_
      refine n_then ?_
      refine t_region ?_
      refine l_q rfl rfl rfl (q_move rfl rfl) ?_
      refine l_q rfl rfl rfl (q_add64 rfl rfl rfl (by omega)) ?_
      refine l_q rfl rfl rfl (q_assign rfl rfl) ?_
      refine l_nil ?_
      refine n_roundE ((i + 1, i + 1, v23, l ++ [(s.drop a).take (i + 1 - a)])) ?_ ?_ (sub_cons rfl (sub_cons rfl (sub_cons rfl sub_nil))) (sub_cons rfl (sub_cons rfl sub_nil)) (fun _ h => by try dsimp only; exact subC_st h)
      · try dsimp only
        exact hln.hit (by omega) hc1
      · try dsimp only
        show s.length - (i + 1) < s.length - i
        omega
    · skip
      simp only [decide_eq_true_eq, decide_eq_false_iff_not] at hc1
      refine t_skip ?_
      refine n_block ?_
      refine n_then ?_
      refine t_region ?_
      refine l_q rfl rfl rfl (q_move rfl rfl) ?_
      refine l_q rfl rfl rfl (q_add64 rfl rfl rfl (by omega)) ?_
      refine l_q rfl rfl rfl (q_assign rfl rfl) ?_
      refine l_nil ?_
      refine n_roundE ((i + 1, a, vl, l)) ?_ ?_ (sub_cons rfl (sub_cons rfl (sub_cons rfl sub_nil))) (sub_cons rfl (sub_cons rfl sub_nil)) (fun _ h => by try dsimp only; exact subC_st h)
      · try dsimp only
        exact hln.miss (by omega) hc1
      · try dsimp only
        show s.length - (i + 1) < s.length - i
        omega
  · skip
    try simp at hc0
    obtain rfl : i = s.length := by omega
    have hrest := hln.rest
    refine t_exit ?_
    refine n_exit_then ?_
    refine n_exit_then ?_
    refine n_exit_block ?_
    refine n_then ?_
    refine t_cutE (ι := Value) (fun zz => True) (fun zz => [(3, zz)]) [(5, _), (4, _), (0, _), (9, _)] (fun zz => I) (fun zz => (tvec 9 1 stC zz (linesB s) :: F)) (sub_cons rfl (sub_cons rfl (sub_cons rfl (sub_cons rfl sub_nil)))) ?_ ?_
    · skip
      refine t_seq ?_
      refine t_region ?_
      refine l_q rfl rfl rfl (q_move rfl rfl) ?_
      refine l_q rfl rfl rfl (q_move rfl rfl) ?_
      refine l_q rfl rfl rfl (q_len_str rfl Tryd.underlying9 rfl) ?_
      refine l_q rfl rfl rfl (q_lss rfl rfl rfl) ?_
      refine l_nil ?_
      refine n_then ?_
      refine t_cond rfl (fun hc2 => ?_) (fun hc2 => ?_)
      · skip
        try simp at hc2
        refine t_region ?_
        refine l_q rfl rfl rfl (q_move rfl rfl) ?_
        refine l_q rfl rfl rfl (q_move rfl rfl) ?_
        refine l_q rfl rfl rfl (q_move rfl rfl) ?_
        refine l_q rfl rfl rfl (q_slice_str_from rfl Tryd.underlying9 rfl rfl (by omega)) ?_
        refine l_e rfl rfl rfl (e_buildSlice1 rfl Tryd.underlying36 ti9 rfl rfl rfl (by first | exact One.cells (by assumption) | rfl) rfl) ?_
        rintro _ _ _ ⟨b34, rfl, rfl, rfl⟩
        refine l_e rfl rfl rfl (e_appendT (f := stC) (c := (s.drop a)) rfl Tryd.underlying36 ti9 rfl rfl rfl rfl rfl rfl rfl (by first | exact stC_ones _ | exact byC_ones _ | exact chC_ones _ | exact pcC_ones _ | simp [Value.oneCell', str, u8] | exact ones1 (by assumption)) (by simp only [maxLen]; omega) (by omega)) ?_
        rintro v35 _ _ ⟨rfl, rfl⟩
        refine l_q rfl rfl rfl (q_assign rfl rfl) ?_
        refine l_nil ?_
        refine n_cut (v35) ?_ (sub_cons rfl sub_nil) (sub_cons rfl (sub_cons rfl (sub_cons rfl (sub_cons rfl sub_nil)))) (fun _ h => by dsimp only; rw [hrest.1 (by omega)]; exact subC_st h)
        · trivial
      · skip
        try simp at hc2
        refine t_skip ?_
        refine n_cut (vl) ?_ (sub_cons rfl sub_nil) (sub_cons rfl (sub_cons rfl (sub_cons rfl (sub_cons rfl sub_nil)))) (fun _ h => by dsimp only; rw [hrest.2 (by omega)]; exact subC_st h)
        · trivial
    rintro vr _
    try dsimp only at *
    refine t_seq ?_
    refine t_freezeT (f := stC) (l := linesB s) vr (fun _ => rfl) (fun J hJ hvr => ?_)
    refine t_region ?_
    refine l_q rfl rfl rfl (q_move rfl rfl) ?_
    refine l_q rfl rfl rfl (q_assign rfl rfl) ?_
    refine l_nil ?_
    refine n_then ?_
    refine t_ret ?_
    refine n_ret1 rfl rfl (fun w' hw => ?_)
    -- leaf 0
    exact ⟨_, rfl, J, _, ⟨hJ, rfl, hvr⟩, hw⟩
set_option maxRecDepth 10000 in
theorem texts_pure (v1 v2 : Value) (l1 l2 : List (List UInt8)) (w : World) (h1 : l1.length ≤ 4611686018427387904) (h2 : l2.length ≤ 4611686018427387904) (hv1 : Sl (look w) 1 v1 (l1.map stC)) (hv2 : Sl (look w) 1 v2 (l2.map stC)) : Pure Tryd.prog 25 [v1, v2] w (.bool (decide (l1 = l2))) := by
  refine enter Tryd.func25 rfl Tryd.ntmps25 rfl (St.start w (look w) (Le.refl _)) ?_
  refine t_seq ?_
  refine t_region ?_
  refine l_q rfl rfl rfl (q_assign rfl rfl) ?_
  refine l_nil ?_
  refine n_then ?_
  refine t_seq ?_
  refine t_seq ?_
  refine t_region ?_
  refine l_q rfl rfl rfl (q_move rfl rfl) ?_
  refine l_q rfl rfl rfl ((by first | exact q_lenV rfl Tryd.underlying36 rfl | exact q_len rfl Tryd.underlying36 rfl (Sl.lenOf hv1 (List.length_map _)) | exact q_len rfl Tryd.underlying36 rfl (Sl.lenOf hv2 (List.length_map _)))) ?_
  refine l_q rfl rfl rfl (q_move rfl rfl) ?_
  refine l_q rfl rfl rfl ((by first | exact q_lenV rfl Tryd.underlying36 rfl | exact q_len rfl Tryd.underlying36 rfl (Sl.lenOf hv1 (List.length_map _)) | exact q_len rfl Tryd.underlying36 rfl (Sl.lenOf hv2 (List.length_map _)))) ?_
  refine l_q rfl rfl rfl (q_neq rfl rfl rfl) ?_
  refine l_nil ?_
  refine n_then ?_
  refine t_cond rfl (fun hc0 => ?_) (fun hc0 => ?_)
  · skip
    try simp at hc0
    refine t_seq ?_
    refine t_region ?_
    refine l_q rfl rfl rfl (q_assign rfl rfl) ?_
    refine l_nil ?_
    refine n_then ?_
    refine t_ret ?_
    refine n_ret_then ?_
    refine n_ret1 rfl rfl (fun w' hw => ?_)
    -- leaf 0
    refine ⟨?_, hw.below⟩
    rw [decide_eq_false (fun e => by subst e; omega)]
  · skip
    try simp at hc0
    have hll : l1.length = l2.length := by omega
    refine t_skip ?_
    refine n_then ?_
    refine t_seq ?_
    refine t_seq ?_
    refine t_region ?_
    refine l_q rfl rfl rfl (q_assign rfl rfl) ?_
    refine l_nil ?_
    refine n_then ?_
    refine t_block ?_
    refine t_loopE (ι := Nat) (fun i => i ≤ l1.length ∧ ∀ k, k < i → nth l1 k [] = nth l2 k []) (fun i => l1.length - i) (fun i => [(5, .int .i64 (i : Int))]) [(0, _), (1, _), (10, _)] (fun i => look w) (fun i => []) 0 ?_ (sub_cons rfl sub_nil) (sub_cons rfl (sub_cons rfl (sub_cons rfl sub_nil))) (fun _ h => subC_st h) ?_
    · try dsimp only
      exact ⟨Nat.zero_le _, fun k hk => absurd hk (Nat.not_lt_zero _)⟩
    rintro i ⟨hi, hok⟩
    refine t_seq ?_
    refine t_seq ?_
    refine t_region ?_
    refine l_q rfl rfl rfl (q_move rfl rfl) ?_
    refine l_q rfl rfl rfl (q_move rfl rfl) ?_
    refine l_q rfl rfl rfl ((by first | exact q_lenV rfl Tryd.underlying36 rfl | exact q_len rfl Tryd.underlying36 rfl (Sl.lenOf hv1 (List.length_map _)) | exact q_len rfl Tryd.underlying36 rfl (Sl.lenOf hv2 (List.length_map _)))) ?_
    refine l_q rfl rfl rfl (q_lss rfl rfl rfl) ?_
    refine l_nil ?_
    refine n_then ?_
    refine t_cond rfl (fun hc1 => ?_) (fun hc1 => ?_)
    · skip
      try simp at hc1
      refine t_skip ?_
      refine n_then ?_
      refine t_seq ?_
      refine t_block ?_
      refine t_seq ?_
      refine t_qdraw mo (by kernel_rfl) (fun _ _ _ _ _ h => h) ?_
      refine s_q rfl rfl rfl (q_move rfl rfl) ?_
      refine s_q rfl rfl rfl (q_move rfl rfl) ?_
      refine s_q rfl rfl rfl ((by first | exact q_indexAddrVN rfl Tryd.underlying36 ti9 rfl rfl (by omega) | exact q_indexAddrN rfl Tryd.underlying36 ti9 rfl rfl (Sl.shape hv1 (List.length_map _)) (by omega) | exact q_indexAddrN rfl Tryd.underlying36 ti9 rfl rfl (Sl.shape hv2 (List.length_map _)) (by omega) | exact q_indexAddrV rfl Tryd.underlying36 ti9 rfl rfl (by omega) | exact q_indexAddr rfl Tryd.underlying36 ti9 rfl rfl (Sl.shape hv1 (List.length_map _)) (by omega) | exact q_indexAddr rfl Tryd.underlying36 ti9 rfl rfl (Sl.shape hv2 (List.length_map _)) (by omega))) ?_
      refine s_q rfl rfl rfl ((by first | exact q_load_row rfl Tryd.underlying9 rfl rfl (by rfl) | exact q_load rfl Tryd.underlying9 rfl rfl (rd_st (i := i) hv1 (by omega)) | exact q_load rfl Tryd.underlying9 rfl rfl (rd_st (i := i) hv2 (by omega)))) ?_
      refine s_q rfl rfl rfl (q_move rfl rfl) ?_
      refine s_q rfl rfl rfl (q_move rfl rfl) ?_
      refine s_q rfl rfl rfl ((by first | exact q_indexAddrVN rfl Tryd.underlying36 ti9 rfl rfl (by omega) | exact q_indexAddrN rfl Tryd.underlying36 ti9 rfl rfl (Sl.shape hv1 (List.length_map _)) (by omega) | exact q_indexAddrN rfl Tryd.underlying36 ti9 rfl rfl (Sl.shape hv2 (List.length_map _)) (by omega) | exact q_indexAddrV rfl Tryd.underlying36 ti9 rfl rfl (by omega) | exact q_indexAddr rfl Tryd.underlying36 ti9 rfl rfl (Sl.shape hv1 (List.length_map _)) (by omega) | exact q_indexAddr rfl Tryd.underlying36 ti9 rfl rfl (Sl.shape hv2 (List.length_map _)) (by omega))) ?_
      refine s_q rfl rfl rfl ((by first | exact q_load_row rfl Tryd.underlying9 rfl rfl (by rfl) | exact q_load rfl Tryd.underlying9 rfl rfl (rd_st (i := i) hv1 (by omega)) | exact q_load rfl Tryd.underlying9 rfl rfl (rd_st (i := i) hv2 (by omega)))) ?_
      refine s_q rfl rfl rfl (q_neq_str rfl rfl rfl) ?_
      refine s_done ?_
      refine n_then ?_
      refine t_cond rfl (fun hc2 => ?_) (fun hc2 => ?_)
      · skip
        simp only [ne_eq, decide_eq_true_eq, decide_eq_false_iff_not, Classical.not_not] at hc2
        refine t_seq ?_
        refine t_region ?_
        refine l_q rfl rfl rfl (q_assign rfl rfl) ?_
        refine l_nil ?_
        refine n_then ?_
        refine t_ret ?_
        refine n_ret_block ?_
        refine n_ret_then ?_
        refine n_ret_then ?_
        refine n_ret_block ?_
        refine n_ret_then ?_
        refine n_ret1 rfl rfl (fun w' hw => ?_)
        -- leaf 1
        refine ⟨?_, hw.below⟩
        rw [decide_eq_false (fun e => hc2 (by rw [e]))]
      · skip
        simp only [ne_eq, decide_eq_true_eq, decide_eq_false_iff_not, Classical.not_not] at hc2
        refine t_skip ?_
        refine n_block ?_
        refine n_then ?_
        refine t_region ?_
        refine l_q rfl rfl rfl (q_move rfl rfl) ?_
        refine l_q rfl rfl rfl (q_add64 rfl rfl rfl (by omega)) ?_
        refine l_q rfl rfl rfl (q_assign rfl rfl) ?_
        refine l_nil ?_
        refine n_roundE (i + 1) ?_ ?_ (sub_cons rfl sub_nil) (sub_cons rfl (sub_cons rfl (sub_cons rfl sub_nil))) (fun _ h => by try dsimp only; exact subC_st h)
        · try dsimp only
          refine ⟨by omega, fun k hk => ?_⟩
          rcases Nat.lt_succ_iff_lt_or_eq.1 hk with h | rfl
          · exact hok k h
          · exact hc2
        · try dsimp only
          omega
    · skip
      try simp at hc1
      refine t_exit ?_
      refine n_exit_then ?_
      refine n_exit_then ?_
      refine n_exit_block ?_
      refine n_then ?_
      refine t_seq ?_
      refine t_region ?_
      refine l_q rfl rfl rfl (q_assign rfl rfl) ?_
      refine l_nil ?_
      refine n_then ?_
      refine t_ret ?_
      refine n_ret1 rfl rfl (fun w' hw => ?_)
      -- leaf 2
      refine ⟨?_, hw.below⟩
      rw [decide_eq_true (beq_lists hll [] fun k hk => hok k (by omega))]
end Go.Tri
