/-
  The reference: what is cut off, texts as patterns.
-/
import Derived.Test.YtlhjbemcapnmjaaPA9
namespace Go.Tri
open Go.Proofs Go.RowKit
theorem isP_wild {p : List Ch} {i : Nat} (h : i < p.length) : (isP p i 42 || isP p i 63 || isP p i 91) = wildC (nth p i ch0) := by
  unfold isP wildC hasB
  have h1 : decide ((i : Int) < (p.length : Int)) = true := by rw [decide_eq_true_eq]; omega
  rw [h1]
  obtain ⟨b, q⟩ := nth p i ch0
  simp only [Bool.true_and, List.any_cons, List.any_nil, Bool.or_false]
  have e : ∀ x : UInt8, (x == b) = decide (b = x) := fun x => by
    by_cases hx : b = x
    · subst hx; simp
    · have : ¬ x = b := fun e => hx e.symm
      simp [hx, this]
  rw [e, e, e]
  cases q <;> cases decide (b = 42) <;> cases decide (b = 63) <;> cases decide (b = 91) <;> rfl
theorem ofP_drop {s : List UInt8} {i : Nat} (h : i < s.length) : (nth s i 0 = 92 → i + 1 < s.length → ofP (s.drop i) = ⟨nth s (i + 1) 0, true⟩ :: ofP (s.drop (i + 1 + 1))) ∧
    (nth s i 0 = 92 → ¬ i + 1 < s.length → ofP (s.drop i) = ⟨nth s i 0, true⟩ :: ofP (s.drop (i + 1))) ∧ (¬ nth s i 0 = 92 → ofP (s.drop i) = ⟨nth s i 0, false⟩ :: ofP (s.drop (i + 1))) := by
  refine ⟨fun h1 h2 => ?_, fun h1 h2 => ?_, fun h1 => ?_⟩
  · rw [drop_nth 0 h, drop_nth 0 h2, ofP, if_pos h1]
  · rw [drop_nth 0 h, List.drop_of_length_le (show s.length ≤ i + 1 by omega)]
    show [(⟨nth s i 0, decide (nth s i 0 = 92)⟩ : Ch)] = [⟨nth s i 0, true⟩]
    rw [decide_eq_true h1]
  · rw [drop_nth 0 h]
    cases hd : s.drop (i + 1) with
    | nil =>
      show [(⟨nth s i 0, decide (nth s i 0 = 92)⟩ : Ch)] = [⟨nth s i 0, false⟩]
      rw [decide_eq_false h1]
    | cons c t => rw [ofP, if_neg h1]; rfl
theorem same_lists {xs ys : List Ch} : decide (xs = ys) = false → xs.length = ys.length → ∃ i, i < xs.length ∧ nth xs i ch0 ≠ nth ys i ch0 := fun h hl => by
  refine Classical.byContradiction fun hn => ?_
  have : xs = ys := beq_lists hl ch0 fun i hi => Classical.byContradiction fun h => hn ⟨i, hi, h⟩
  rw [this] at h; simp at h
set_option maxRecDepth 10000 in
theorem refCut_pure (v : Value) (p : List Ch) (s : List UInt8) (e lg : Bool) (w : World) (hp : p.length ≤ 4611686018427387904) (hs : s.length ≤ 4611686018427387904) (hv : Sl (look w) 2 v (p.map chC)) : Pure Try.prog 11 [v, str s, .bool e, .bool lg] w (str (cutP p s e lg)) := by
  refine enter Try.func11 rfl Try.ntmps11 rfl (St.start w (look w) (Le.refl _)) ?_
  refine t_seq ?_
  refine t_region ?_
  refine l_q rfl rfl rfl (q_assign rfl rfl) ?_
  refine l_nil ?_
  refine n_then ?_
  refine t_seq ?_
  refine t_seq ?_
  refine t_region ?_
  refine l_q rfl rfl rfl (q_assign rfl rfl) ?_
  refine l_nil ?_
  refine n_then ?_
  refine t_block ?_
  refine t_loopE (ι := Nat) (fun zz => zz ≤ s.length + 1 ∧ ∀ j, j < zz → cutOk p s e lg j = false) (fun zz => s.length + 1 - zz) (fun zz => [(9, .int .i64 (zz : Int))]) [(0, _), (1, _), (2, _), (3, _)] (fun zz => look w) (fun zz => []) 0 ?_ (sub_cons rfl sub_nil) (sub_cons rfl (sub_cons rfl (sub_cons rfl (sub_cons rfl sub_nil)))) (fun _ h => subC_st h) ?_
  · try dsimp only
    exact ⟨Nat.zero_le _, fun j hj => absurd hj (Nat.not_lt_zero j)⟩
  rintro i ⟨hi, hno⟩
  try dsimp only at *
  refine t_seq ?_
  refine t_seq ?_
  refine t_region ?_
  refine l_q rfl rfl rfl (q_move rfl rfl) ?_
  refine l_q rfl rfl rfl (q_move rfl rfl) ?_
  refine l_q rfl rfl rfl (q_len_str rfl Try.underlying9 rfl) ?_
  refine l_q rfl rfl rfl (q_leq rfl rfl rfl) ?_
  refine l_nil ?_
  refine n_then ?_
  refine t_cond rfl (fun hc0 => ?_) (fun hc0 => ?_)
  · skip
    try simp at hc0
    refine t_skip ?_
    refine n_then ?_
    refine t_seq ?_
    refine t_block ?_
    refine t_seq ?_
    refine t_region ?_
    refine l_q rfl rfl rfl (q_move rfl rfl) ?_
    refine l_q rfl rfl rfl (q_assign rfl rfl) ?_
    refine l_nil ?_
    refine n_then ?_
    refine t_cutE (ι := Nat) (fun zz => zz = cutLen s lg i ∧ zz ≤ s.length) (fun zz => [(10, .int .i64 (zz : Int))]) [(9, _), (0, _), (1, _), (2, _), (3, _), (14, _)] (fun zz => look w) (fun zz => []) (sub_cons rfl (sub_cons rfl (sub_cons rfl (sub_cons rfl (sub_cons rfl (sub_cons rfl sub_nil)))))) ?_ ?_
    · skip
      refine t_seq ?_
      refine t_region ?_
      refine l_q rfl rfl rfl (q_move rfl rfl) ?_
      refine l_nil ?_
      refine n_then ?_
      refine t_cond rfl (fun hc1 => ?_) (fun hc1 => ?_)
      · skip
        refine t_region ?_
        refine l_q rfl rfl rfl (q_move rfl rfl) ?_
        refine l_q rfl rfl rfl (q_len_str rfl Try.underlying9 rfl) ?_
        refine l_q rfl rfl rfl (q_move rfl rfl) ?_
        refine l_q rfl rfl rfl (q_sub64 rfl rfl rfl (by omega)) ?_
        refine l_q rfl rfl rfl (q_assign rfl rfl) ?_
        refine l_nil ?_
        refine n_cut (s.length - i) ?_ (sub_cons' rfl (by congr 1; omega) (sub_nil)) (sub_cons rfl (sub_cons rfl (sub_cons rfl (sub_cons rfl (sub_cons rfl (sub_cons rfl sub_nil)))))) (fun _ h => by try dsimp only; exact subC_st h)
        · try dsimp only
          exact ⟨by rw [cutLen, if_pos hc1], by omega⟩
      · skip
        refine t_skip ?_
        refine n_cut (i) ?_ (sub_cons rfl sub_nil) (sub_cons rfl (sub_cons rfl (sub_cons rfl (sub_cons rfl (sub_cons rfl (sub_cons rfl sub_nil)))))) (fun _ h => by try dsimp only; exact subC_st h)
        · try dsimp only
          exact ⟨by rw [cutLen, if_neg (by rw [hc1]; simp)], by omega⟩
    rintro m ⟨hm, hml⟩
    try dsimp only at *
    have e1 : ((s.length : Int) - (m : Int)).toNat = s.length - m := by omega
    refine t_seq ?_
    refine t_seq ?_
    refine t_qreg ?_
    refine s_q rfl rfl rfl (q_move rfl rfl) ?_
    refine s_q rfl rfl rfl (q_move rfl rfl) ?_
    refine s_and2 8 1 24 33 32 _ _ rfl rfl rfl rfl rfl rfl (fun h33 => by
        try simp at h33
        refine s_g rfl rfl rfl rfl rfl rfl (q_move rfl rfl) ?_
        refine s_g rfl rfl rfl rfl rfl rfl (q_move rfl rfl) ?_
        refine s_g rfl rfl rfl rfl rfl rfl (q_move rfl rfl) ?_
        refine s_g rfl rfl rfl rfl rfl rfl (q_len_str rfl Try.underlying9 rfl) ?_
        refine s_g rfl rfl rfl rfl rfl rfl (q_move rfl rfl) ?_
        refine s_g rfl rfl rfl rfl rfl rfl (q_sub64 rfl rfl rfl (by omega)) ?_
        refine s_g rfl rfl rfl rfl rfl rfl (q_slice_str_from rfl Try.underlying9 rfl rfl (by omega)) ?_
        refine s_g rfl rfl rfl rfl rfl rfl (quiet_call rfl rfl rfl Try.func14 (by kernel_rfl) rfl ((fun w hw => refMatch_pure v p (s.drop ((s.length : Int) - (m : Int)).toNat) w hp (by simp; omega) (hv.mono (Le.of_st hw))))) ?_
        exact s_val rfl
      ) (wanted_n rfl) rfl rfl rfl ?_
    refine s_done ?_
    refine n_then ?_
    refine t_cond rfl (fun hc2 => ?_) (fun hc2 => ?_)
    · skip
      refine t_seq ?_
      refine t_region ?_
      refine l_q rfl rfl rfl (q_move rfl rfl) ?_
      refine l_q rfl rfl rfl (q_move rfl rfl) ?_
      refine l_q rfl rfl rfl (q_len_str rfl Try.underlying9 rfl) ?_
      refine l_q rfl rfl rfl (q_move rfl rfl) ?_
      refine l_q rfl rfl rfl (q_sub64 rfl rfl rfl (by omega)) ?_
      refine l_q rfl rfl rfl (q_slice_str_to rfl Try.underlying9 rfl rfl (by omega)) ?_
      refine l_q rfl rfl rfl (q_assign rfl rfl) ?_
      refine l_nil ?_
      refine n_then ?_
      refine t_ret ?_
      refine n_ret_then ?_
      refine n_ret_block ?_
      refine n_ret_then ?_
      refine n_ret_then ?_
      refine n_ret_block ?_
      refine n_ret_then ?_
      refine n_ret1 rfl rfl (fun w' hw => ?_)
      -- leaf 0
      refine ⟨?_, hw.below⟩
      rw [← cut_t hm e1 (by omega) hno hc2]
    · skip
      refine t_skip ?_
      refine n_then ?_
      refine t_seq ?_
      refine t_qreg ?_
      refine s_q rfl rfl rfl (q_move rfl rfl) ?_
      refine s_q rfl rfl rfl (q_not rfl rfl) ?_
      refine s_q rfl rfl rfl (q_move rfl rfl) ?_
      refine s_and2 5 2 42 48 47 _ _ rfl rfl rfl rfl rfl rfl (fun h48 => by
          try simp at h48
          refine s_g rfl rfl rfl rfl rfl rfl (q_move rfl rfl) ?_
          refine s_g rfl rfl rfl rfl rfl rfl (q_move rfl rfl) ?_
          refine s_g rfl rfl rfl rfl rfl rfl (q_move rfl rfl) ?_
          refine s_g rfl rfl rfl rfl rfl rfl (q_slice_str_to rfl Try.underlying9 rfl rfl (by omega)) ?_
          refine s_g rfl rfl rfl rfl rfl rfl (quiet_call rfl rfl rfl Try.func14 (by kernel_rfl) rfl ((fun w hw => refMatch_pure v p (s.take (m : Int).toNat) w hp (by simp; omega) (hv.mono (Le.of_st hw))))) ?_
          exact s_val rfl
        ) (wanted_n rfl) rfl rfl rfl ?_
      refine s_done ?_
      refine n_then ?_
      refine t_cond rfl (fun hc3 => ?_) (fun hc3 => ?_)
      · skip
        refine t_seq ?_
        refine t_region ?_
        refine l_q rfl rfl rfl (q_move rfl rfl) ?_
        refine l_q rfl rfl rfl (q_move rfl rfl) ?_
        refine l_q rfl rfl rfl (q_slice_str_from rfl Try.underlying9 rfl rfl (by omega)) ?_
        refine l_q rfl rfl rfl (q_assign rfl rfl) ?_
        refine l_nil ?_
        refine n_then ?_
        refine t_ret ?_
        refine n_ret_block ?_
        refine n_ret_then ?_
        refine n_ret_then ?_
        refine n_ret_block ?_
        refine n_ret_then ?_
        refine n_ret1 rfl rfl (fun w' hw => ?_)
        -- leaf 1
        refine ⟨?_, hw.below⟩
        rw [← cut_f hm (by omega) hno hc3]
      · skip
        refine t_skip ?_
        refine n_block ?_
        refine n_then ?_
        refine t_region ?_
        refine l_q rfl rfl rfl (q_move rfl rfl) ?_
        refine l_q rfl rfl rfl (q_add64 rfl rfl rfl (by omega)) ?_
        refine l_q rfl rfl rfl (q_assign rfl rfl) ?_
        refine l_nil ?_
        refine n_roundE (i + 1) ?_ ?_ (sub_cons rfl sub_nil) (sub_cons rfl (sub_cons rfl (sub_cons rfl (sub_cons rfl sub_nil)))) (fun _ h => by try dsimp only; exact subC_st h)
        · try dsimp only
          refine ⟨by omega, fun j hj => ?_⟩
          rcases Nat.lt_succ_iff_lt_or_eq.1 hj with h | rfl
          · exact hno j h
          · exact cutOk_no hm e1 hc2 hc3
        · try dsimp only
          omega
  · skip
    try simp at hc0
    refine t_exit ?_
    refine n_exit_then ?_
    refine n_exit_then ?_
    refine n_exit_block ?_
    refine n_then ?_
    refine t_seq ?_
    refine t_region ?_
    refine l_q rfl rfl rfl (q_move rfl rfl) ?_
    refine l_q rfl rfl rfl (q_assign rfl rfl) ?_
    refine l_nil ?_
    refine n_then ?_
    refine t_ret ?_
    refine n_ret1 rfl rfl (fun w' hw => ?_)
    -- leaf 2
    refine ⟨?_, hw.below⟩
    rw [cutP_none (fun j hj => hno j (by omega))]
set_option maxRecDepth 10000 in
theorem refWild_pure (v : Value) (p : List Ch) (w : World) (hp : p.length ≤ 4611686018427387904) (hv : Sl (look w) 2 v (p.map chC)) : Pure Try.prog 16 [v] w (.bool (wildP p)) := by
  refine enter Try.func16 rfl Try.ntmps16 rfl (St.start w (look w) (Le.refl _)) ?_
  refine t_seq ?_
  refine t_region ?_
  refine l_q rfl rfl rfl (q_assign rfl rfl) ?_
  refine l_nil ?_
  refine n_then ?_
  refine t_seq ?_
  refine t_seq ?_
  refine t_region ?_
  refine l_q rfl rfl rfl (q_assign rfl rfl) ?_
  refine l_nil ?_
  refine n_then ?_
  refine t_block ?_
  refine t_loopE (ι := Nat) (fun zz => zz ≤ p.length ∧ wildP p = wildP (p.drop zz)) (fun zz => p.length - zz) (fun zz => [(3, .int .i64 (zz : Int))]) [(0, _)] (fun zz => look w) (fun zz => []) 0 ?_ (sub_cons rfl sub_nil) (sub_cons rfl sub_nil) (fun _ h => subC_st h) ?_
  · try dsimp only
    exact ⟨Nat.zero_le _, by simp⟩
  rintro i ⟨hi, hx⟩
  try dsimp only at *
  refine t_seq ?_
  refine t_seq ?_
  refine t_region ?_
  refine l_q rfl rfl rfl (q_move rfl rfl) ?_
  refine l_q rfl rfl rfl (q_move rfl rfl) ?_
  refine l_q rfl rfl rfl ((by first | exact q_lenV rfl Try.underlying22 rfl | exact q_len rfl Try.underlying22 rfl (Sl.lenOf hv (List.length_map _)))) ?_
  refine l_q rfl rfl rfl (q_lss rfl rfl rfl) ?_
  refine l_nil ?_
  refine n_then ?_
  refine t_cond rfl (fun hc0 => ?_) (fun hc0 => ?_)
  · skip
    try simp at hc0
    refine t_skip ?_
    refine n_then ?_
    refine t_seq ?_
    refine t_block ?_
    refine t_seq ?_
    refine t_qreg ?_
    refine s_q rfl rfl rfl (q_move rfl rfl) ?_
    refine s_q rfl rfl rfl (q_move rfl rfl) ?_
    refine s_q rfl rfl rfl (quiet_call rfl rfl rfl Try.func24 (by kernel_rfl) rfl ((fun w hw => is_pure v p (i) 42 w hp (by omega) (hv.mono (Le.of_st hw))))) ?_
    refine s_q rfl rfl rfl (q_move rfl rfl) ?_
    refine s_or2 3 3 13 17 16 _ _ rfl rfl rfl rfl rfl rfl (fun h17 => by
        try simp at h17
        refine s_g rfl rfl rfl rfl rfl rfl (q_move rfl rfl) ?_
        refine s_g rfl rfl rfl rfl rfl rfl (q_move rfl rfl) ?_
        refine s_g rfl rfl rfl rfl rfl rfl (quiet_call rfl rfl rfl Try.func24 (by kernel_rfl) rfl ((fun w hw => is_pure v p (i) 63 w hp (by omega) (hv.mono (Le.of_st hw))))) ?_
        exact s_val rfl
      ) (wanted_n rfl) rfl rfl rfl ?_
    refine s_q rfl rfl rfl (q_move rfl rfl) ?_
    refine s_or2 3 8 18 22 21 _ _ rfl rfl rfl rfl rfl rfl (fun h22 => by
        try simp at h22
        refine s_g rfl rfl rfl rfl rfl rfl (q_move rfl rfl) ?_
        refine s_g rfl rfl rfl rfl rfl rfl (q_move rfl rfl) ?_
        refine s_g rfl rfl rfl rfl rfl rfl (quiet_call rfl rfl rfl Try.func24 (by kernel_rfl) rfl ((fun w hw => is_pure v p (i) 91 w hp (by omega) (hv.mono (Le.of_st hw))))) ?_
        exact s_val rfl
      ) (wanted_n rfl) rfl rfl rfl ?_
    refine s_done ?_
    refine n_then ?_
    refine t_cond rfl (fun hc1 => ?_) (fun hc1 => ?_)
    · skip
      refine t_seq ?_
      refine t_region ?_
      refine l_q rfl rfl rfl (q_assign rfl rfl) ?_
      refine l_nil ?_
      refine n_then ?_
      refine t_ret ?_
      refine n_ret_block ?_
      refine n_ret_then ?_
      refine n_ret_then ?_
      refine n_ret_block ?_
      refine n_ret_then ?_
      refine n_ret1 rfl rfl (fun w' hw => ?_)
      -- leaf 0
      refine ⟨?_, hw.below⟩
      have h1 : (isP p i 42 || isP p i 63 || isP p i 91) = true := hc1
      rw [isP_wild (by omega)] at h1
      rw [hx, drop_nth ch0 (by omega), wildP, List.any_cons, h1]; rfl
    · skip
      refine t_skip ?_
      refine n_block ?_
      refine n_then ?_
      refine t_region ?_
      refine l_q rfl rfl rfl (q_move rfl rfl) ?_
      refine l_q rfl rfl rfl (q_add64 rfl rfl rfl (by omega)) ?_
      refine l_q rfl rfl rfl (q_assign rfl rfl) ?_
      refine l_nil ?_
      refine n_roundE (i + 1) ?_ ?_ (sub_cons rfl sub_nil) (sub_cons rfl sub_nil) (fun _ h => by try dsimp only; exact subC_st h)
      · try dsimp only
        have h1 : (isP p i 42 || isP p i 63 || isP p i 91) = false := hc1
        rw [isP_wild (by omega)] at h1
        refine ⟨by omega, hx.trans ?_⟩; rw [drop_nth ch0 (by omega), wildP, List.any_cons, h1, Bool.false_or]; rfl
      · try dsimp only
        omega
  · skip
    try simp at hc0
    refine t_exit ?_
    refine n_exit_then ?_
    refine n_exit_then ?_
    refine n_exit_block ?_
    refine n_then ?_
    refine t_seq ?_
    refine t_region ?_
    refine l_q rfl rfl rfl (q_assign rfl rfl) ?_
    refine l_nil ?_
    refine n_then ?_
    refine t_ret ?_
    refine n_ret1 rfl rfl (fun w' hw => ?_)
    -- leaf 1
    refine ⟨?_, hw.below⟩
    rw [hx, List.drop_of_length_le (by omega)]; rfl
set_option maxRecDepth 10000 in
theorem refOf_calls (s : List UInt8) (I : Look) (F : List HA) (w0 w : World) (hs : s.length ≤ 1000000000) (hw0 : St w0 I F w) : Calls Try.prog 19 [str s].toArray w (fun e w' => ∃ v, e = .returned v ∧ ∃ I' H', (Le I I' ∧ F = H' ∧ Sl I' 2 v ((ofP s).map chC)) ∧ St w I' H' w') := by
  refine enter Try.func19 rfl Try.ntmps19 rfl (hw0.self) ?_
  refine t_seq ?_
  refine t_region ?_
  refine l_q rfl rfl rfl (q_assign rfl rfl) ?_
  refine l_nil ?_
  refine n_then ?_
  refine t_seq ?_
  refine t_region ?_
  refine l_q rfl rfl rfl (q_assign rfl rfl) ?_
  refine l_nil ?_
  refine n_then ?_
  refine t_seq ?_
  refine t_seq ?_
  refine t_region ?_
  refine l_q rfl rfl rfl (q_assign rfl rfl) ?_
  refine l_nil ?_
  refine n_then ?_
  refine t_block ?_
  refine t_loopE (ι := Nat × Value × List Ch) (fun zz => zz.1 ≤ s.length ∧ ofP s = zz.2.2 ++ ofP (s.drop zz.1) ∧ zz.2.2.length ≤ zz.1) (fun zz => s.length - zz.1) (fun zz => [(4, .int .i64 (zz.1 : Int)), (3, zz.2.1)]) [(0, _), (2, _)] (fun zz => I) (fun zz => (tvec 29 2 chC zz.2.1 zz.2.2 :: F)) (0, .slice none 0 0, []) ?_ (sub_cons rfl (sub_cons rfl sub_nil)) (sub_cons rfl (sub_cons rfl sub_nil)) (fun _ h => st_nilT 29 2 chC h) ?_
  · try dsimp only
    exact ⟨Nat.zero_le _, by simp, by simp⟩
  rintro ⟨i, vo, out⟩ ⟨hi, hof, hol⟩
  try dsimp only at *
  refine t_seq ?_
  refine t_seq ?_
  refine t_region ?_
  refine l_q rfl rfl rfl (q_move rfl rfl) ?_
  refine l_q rfl rfl rfl (q_move rfl rfl) ?_
  refine l_q rfl rfl rfl (q_len_str rfl Try.underlying9 rfl) ?_
  refine l_q rfl rfl rfl (q_lss rfl rfl rfl) ?_
  refine l_nil ?_
  refine n_then ?_
  refine t_cond rfl (fun hc0 => ?_) (fun hc0 => ?_)
  · skip
    try simp at hc0
    refine t_skip ?_
    refine n_then ?_
    refine t_seq ?_
    refine t_block ?_
    refine t_seq ?_
    refine t_region ?_
    refine l_q rfl rfl rfl (q_move rfl rfl) ?_
    refine l_q rfl rfl rfl (q_move rfl rfl) ?_
    refine l_q rfl rfl rfl ((by first | exact q_index_strN rfl Try.underlying9 rfl rfl (by omega) | exact q_index_str rfl Try.underlying9 rfl rfl (by omega))) ?_
    refine l_q rfl rfl rfl (q_eql_u8c rfl rfl rfl rfl) ?_
    refine l_nil ?_
    refine n_then ?_
    refine t_cond rfl (fun hc1 => ?_) (fun hc1 => ?_)
    · skip
      simp only [decide_eq_true_eq, decide_eq_false_iff_not] at hc1
      have hc1 : nth s i 0 = 92 := hc1
      refine t_cutE (ι := Nat) (fun zz => i ≤ zz ∧ zz < s.length ∧ ofP (s.drop i) = ⟨nth s zz 0, true⟩ :: ofP (s.drop (zz + 1))) (fun zz => [(4, .int .i64 (zz : Int))]) [(3, _), (0, _), (2, _), (8, _), (14, _)] (fun zz => I) (fun zz => (tvec 29 2 chC vo out :: F)) (sub_cons rfl (sub_cons rfl (sub_cons rfl (sub_cons rfl (sub_cons rfl sub_nil))))) ?_ ?_
      · skip
        refine t_seq ?_
        refine t_region ?_
        refine l_q rfl rfl rfl (q_move rfl rfl) ?_
        refine l_q rfl rfl rfl (q_add64 rfl rfl rfl (by omega)) ?_
        refine l_q rfl rfl rfl (q_move rfl rfl) ?_
        refine l_q rfl rfl rfl (q_len_str rfl Try.underlying9 rfl) ?_
        refine l_q rfl rfl rfl (q_lss rfl rfl rfl) ?_
        refine l_nil ?_
        refine n_then ?_
        refine t_cond rfl (fun hc2 => ?_) (fun hc2 => ?_)
        · skip
          try simp at hc2
          refine t_region ?_
          refine l_q rfl rfl rfl (q_move rfl rfl) ?_
          refine l_q rfl rfl rfl (q_add64 rfl rfl rfl (by omega)) ?_
          refine l_q rfl rfl rfl (q_assign rfl rfl) ?_
          refine l_nil ?_
          refine n_cut (i + 1) ?_ (sub_cons rfl sub_nil) (sub_cons rfl (sub_cons rfl (sub_cons rfl (sub_cons rfl (sub_cons rfl sub_nil))))) (fun _ h => by try dsimp only; exact subC_st h)
          · try dsimp only
            exact ⟨by omega, by omega, (ofP_drop (by omega)).1 hc1 (by omega)⟩
        · skip
          try simp at hc2
          refine t_skip ?_
          refine n_cut (i) ?_ (sub_cons rfl sub_nil) (sub_cons rfl (sub_cons rfl (sub_cons rfl (sub_cons rfl (sub_cons rfl sub_nil))))) (fun _ h => by try dsimp only; exact subC_st h)
          · try dsimp only
            exact ⟨Nat.le_refl _, by omega, (ofP_drop (by omega)).2.1 hc1 (by omega)⟩
      rintro i2 ⟨hr1, hrl, hr2⟩
      try dsimp only at *
      refine t_region ?_
      refine l_q rfl rfl rfl (q_move rfl rfl) ?_
      refine l_q rfl rfl rfl (q_move rfl rfl) ?_
      refine l_q rfl rfl rfl (q_move rfl rfl) ?_
      refine l_q rfl rfl rfl ((by first | exact q_index_strN rfl Try.underlying9 rfl rfl (by omega) | exact q_index_str rfl Try.underlying9 rfl rfl (by omega))) ?_
      refine l_q rfl rfl rfl (q_build (pl := [(_, _), (_, _)]) (cs := (chC ⟨nth s i2 0, true⟩).toArray) rfl Try.underlying29 ti29 ⟨rfl, ⟨_, _, ti5⟩, rfl, ⟨_, _, ti4⟩, trivial⟩ rfl rfl) ?_
      refine l_e rfl rfl rfl (e_buildSlice1 rfl Try.underlying22 ti29 rfl rfl rfl (by first | exact One.cells (by assumption) | rfl) rfl) ?_
      rintro _ _ _ ⟨b27, rfl, rfl, rfl⟩
      refine l_e rfl rfl rfl (e_appendT (f := chC) (c := (⟨nth s i2 0, true⟩ : Ch)) rfl Try.underlying22 ti29 rfl rfl rfl rfl rfl rfl rfl (by first | exact byC_ones _ | exact chC_ones _ | exact pcC_ones _ | simp [Value.oneCell', str, u8] | exact ones1 (by assumption)) (by simp only [maxLen]; omega) (by omega)) ?_
      rintro v28 _ _ ⟨rfl, rfl⟩
      refine l_q rfl rfl rfl (q_assign rfl rfl) ?_
      refine l_nil ?_
      refine n_block ?_
      refine n_then ?_
      refine t_region ?_
      refine l_q rfl rfl rfl (q_move rfl rfl) ?_
      refine l_q rfl rfl rfl (q_add64 rfl rfl rfl (by omega)) ?_
      refine l_q rfl rfl rfl (q_assign rfl rfl) ?_
      refine l_nil ?_
      refine n_roundE ((i2 + 1, v28, out ++ [⟨nth s i2 0, true⟩])) ?_ ?_ (sub_cons rfl (sub_cons rfl sub_nil)) (sub_cons rfl (sub_cons rfl sub_nil)) (fun _ h => by try dsimp only; exact subC_st h)
      · try dsimp only
        refine ⟨by omega, by rw [hof, hr2]; simp, ?_⟩
        simp only [List.length_append, List.length_cons, List.length_nil]; omega
      · try dsimp only
        omega
    · skip
      simp only [decide_eq_true_eq, decide_eq_false_iff_not] at hc1
      have hc1 : ¬ nth s i 0 = 92 := hc1
      refine t_region ?_
      refine l_q rfl rfl rfl (q_move rfl rfl) ?_
      refine l_q rfl rfl rfl (q_move rfl rfl) ?_
      refine l_q rfl rfl rfl (q_move rfl rfl) ?_
      refine l_q rfl rfl rfl ((by first | exact q_index_strN rfl Try.underlying9 rfl rfl (by omega) | exact q_index_str rfl Try.underlying9 rfl rfl (by omega))) ?_
      refine l_q rfl rfl rfl (q_build (pl := [(_, _), (_, _)]) (cs := (chC ⟨nth s i 0, false⟩).toArray) rfl Try.underlying29 ti29 ⟨rfl, ⟨_, _, ti5⟩, rfl, ⟨_, _, ti4⟩, trivial⟩ rfl rfl) ?_
      refine l_e rfl rfl rfl (e_buildSlice1 rfl Try.underlying22 ti29 rfl rfl rfl (by first | exact One.cells (by assumption) | rfl) rfl) ?_
      rintro _ _ _ ⟨b34, rfl, rfl, rfl⟩
      refine l_e rfl rfl rfl (e_appendT (f := chC) (c := (⟨nth s i 0, false⟩ : Ch)) rfl Try.underlying22 ti29 rfl rfl rfl rfl rfl rfl rfl (by first | exact byC_ones _ | exact chC_ones _ | exact pcC_ones _ | simp [Value.oneCell', str, u8] | exact ones1 (by assumption)) (by simp only [maxLen]; omega) (by omega)) ?_
      rintro v35 _ _ ⟨rfl, rfl⟩
      refine l_q rfl rfl rfl (q_assign rfl rfl) ?_
      refine l_nil ?_
      refine n_block ?_
      refine n_then ?_
      refine t_region ?_
      refine l_q rfl rfl rfl (q_move rfl rfl) ?_
      refine l_q rfl rfl rfl (q_add64 rfl rfl rfl (by omega)) ?_
      refine l_q rfl rfl rfl (q_assign rfl rfl) ?_
      refine l_nil ?_
      refine n_roundE ((i + 1, v35, out ++ [⟨nth s i 0, false⟩])) ?_ ?_ (sub_cons rfl (sub_cons rfl sub_nil)) (sub_cons rfl (sub_cons rfl sub_nil)) (fun _ h => by try dsimp only; exact subC_st h)
      · try dsimp only
        refine ⟨by omega, by rw [hof, (ofP_drop (by omega)).2.2 hc1]; simp, ?_⟩
        simp only [List.length_append, List.length_cons, List.length_nil]; omega
      · try dsimp only
        omega
  · skip
    try simp at hc0
    refine t_exit ?_
    refine n_exit_then ?_
    refine n_exit_then ?_
    refine n_exit_block ?_
    refine n_then ?_
    refine t_seq ?_
    refine t_freezeT (f := chC) (l := out) vo (fun _ => rfl) (fun J3 hJ3 hvo => ?_)
    refine t_region ?_
    refine l_q rfl rfl rfl (q_move rfl rfl) ?_
    refine l_q rfl rfl rfl (q_assign rfl rfl) ?_
    refine l_nil ?_
    refine n_then ?_
    refine t_ret ?_
    refine n_ret1 rfl rfl (fun w' hw => ?_)
    -- leaf 0
    rw [List.drop_of_length_le (by omega), show ofP [] = [] from rfl, List.append_nil] at hof
    exact ⟨_, rfl, J3, _, ⟨hJ3, rfl, by rw [hof]; exact hvo⟩, hw⟩
set_option maxRecDepth 10000 in
theorem refPlain_calls (s : List UInt8) (I : Look) (F : List HA) (w0 w : World) (hs : s.length ≤ 1000000000) (hw0 : St w0 I F w) : Calls Try.prog 20 [str s].toArray w (fun e w' => ∃ v, e = .returned v ∧ ∃ I' H', (Le I I' ∧ F = H' ∧ Sl I' 2 v ((plainP s).map chC)) ∧ St w I' H' w') := by
  refine enter Try.func20 rfl Try.ntmps20 rfl (hw0.self) ?_
  refine t_seq ?_
  refine t_region ?_
  refine l_q rfl rfl rfl (q_assign rfl rfl) ?_
  refine l_nil ?_
  refine n_then ?_
  refine t_seq ?_
  refine t_region ?_
  refine l_q rfl rfl rfl (q_assign rfl rfl) ?_
  refine l_nil ?_
  refine n_then ?_
  refine t_seq ?_
  refine t_seq ?_
  refine t_region ?_
  refine l_q rfl rfl rfl (q_assign rfl rfl) ?_
  refine l_nil ?_
  refine n_then ?_
  refine t_block ?_
  refine t_loopE (ι := Nat × Value) (fun zz => zz.1 ≤ s.length) (fun zz => s.length - zz.1) (fun zz => [(4, .int .i64 (zz.1 : Int)), (3, zz.2)]) [(0, _), (2, _)] (fun zz => I) (fun zz => (tvec 29 2 chC zz.2 (plainP (s.take zz.1)) :: F)) (0, .slice none 0 0) ?_ (sub_cons rfl (sub_cons rfl sub_nil)) (sub_cons rfl (sub_cons rfl sub_nil)) (fun _ h => st_nilT 29 2 chC h) ?_
  · try dsimp only
    exact Nat.zero_le _
  rintro ⟨i, vo⟩ hi
  try dsimp only at *
  have hpl : (plainP (s.take i)).length = i := by simp [plainP]; omega
  refine t_seq ?_
  refine t_seq ?_
  refine t_region ?_
  refine l_q rfl rfl rfl (q_move rfl rfl) ?_
  refine l_q rfl rfl rfl (q_move rfl rfl) ?_
  refine l_q rfl rfl rfl (q_len_str rfl Try.underlying9 rfl) ?_
  refine l_q rfl rfl rfl (q_lss rfl rfl rfl) ?_
  refine l_nil ?_
  refine n_then ?_
  refine t_cond rfl (fun hc0 => ?_) (fun hc0 => ?_)
  · skip
    try simp at hc0
    refine t_skip ?_
    refine n_then ?_
    refine t_seq ?_
    refine t_block ?_
    refine t_region ?_
    refine l_q rfl rfl rfl (q_move rfl rfl) ?_
    refine l_q rfl rfl rfl (q_move rfl rfl) ?_
    refine l_q rfl rfl rfl (q_move rfl rfl) ?_
    refine l_q rfl rfl rfl ((by first | exact q_index_strN rfl Try.underlying9 rfl rfl (by omega) | exact q_index_str rfl Try.underlying9 rfl rfl (by omega))) ?_
    refine l_q rfl rfl rfl (q_build (pl := [(_, _), (_, _)]) (cs := (chC ⟨nth s i 0, true⟩).toArray) rfl Try.underlying29 ti29 ⟨rfl, ⟨_, _, ti5⟩, rfl, ⟨_, _, ti4⟩, trivial⟩ rfl rfl) ?_
    refine l_e rfl rfl rfl (e_buildSlice1 rfl Try.underlying22 ti29 rfl rfl rfl (by first | exact One.cells (by assumption) | rfl) rfl) ?_
    rintro _ _ _ ⟨b16, rfl, rfl, rfl⟩
    refine l_e rfl rfl rfl (e_appendT (f := chC) (c := (⟨nth s i 0, true⟩ : Ch)) rfl Try.underlying22 ti29 rfl rfl rfl rfl rfl rfl rfl (by first | exact byC_ones _ | exact chC_ones _ | exact pcC_ones _ | simp [Value.oneCell', str, u8] | exact ones1 (by assumption)) (by simp only [maxLen]; omega) (by omega)) ?_
    rintro v17 _ _ ⟨rfl, rfl⟩
    refine l_q rfl rfl rfl (q_assign rfl rfl) ?_
    refine l_nil ?_
    refine n_block ?_
    refine n_then ?_
    refine t_region ?_
    refine l_q rfl rfl rfl (q_move rfl rfl) ?_
    refine l_q rfl rfl rfl (q_add64 rfl rfl rfl (by omega)) ?_
    refine l_q rfl rfl rfl (q_assign rfl rfl) ?_
    refine l_nil ?_
    refine n_roundE ((i + 1, v17)) ?_ ?_ (sub_cons rfl (sub_cons rfl sub_nil)) (sub_cons rfl (sub_cons rfl sub_nil)) (fun _ h => by dsimp only; rw [plainP_snoc (by omega)]; exact subC_st h)
    · try dsimp only
      omega
    · try dsimp only
      omega
  · skip
    try simp at hc0
    refine t_exit ?_
    refine n_exit_then ?_
    refine n_exit_then ?_
    refine n_exit_block ?_
    refine n_then ?_
    refine t_seq ?_
    refine t_freezeT (f := chC) (l := plainP (s.take i)) vo (fun _ => rfl) (fun J3 hJ3 hvo => ?_)
    refine t_region ?_
    refine l_q rfl rfl rfl (q_move rfl rfl) ?_
    refine l_q rfl rfl rfl (q_assign rfl rfl) ?_
    refine l_nil ?_
    refine n_then ?_
    refine t_ret ?_
    refine n_ret1 rfl rfl (fun w' hw => ?_)
    -- leaf 0
    exact ⟨_, rfl, J3, _, ⟨hJ3, rfl, by rw [List.take_of_length_le (by omega)] at hvo; exact hvo⟩, hw⟩
set_option maxRecDepth 10000 in
theorem same_pure (v u : Value) (xs ys : List Ch) (w : World) (hx : xs.length ≤ 4611686018427387904) (hy : ys.length ≤ 4611686018427387904) (hv : Sl (look w) 2 v (xs.map chC)) (hu : Sl (look w) 2 u (ys.map chC)) : Pure Try.prog 17 [v, u] w (.bool (decide (xs = ys))) := by
  refine enter Try.func17 rfl Try.ntmps17 rfl (St.start w (look w) (Le.refl _)) ?_
  refine t_seq ?_
  refine t_region ?_
  refine l_q rfl rfl rfl (q_assign rfl rfl) ?_
  refine l_nil ?_
  refine n_then ?_
  refine t_seq ?_
  refine t_seq ?_
  refine t_region ?_
  refine l_q rfl rfl rfl (q_move rfl rfl) ?_
  refine l_q rfl rfl rfl ((by first | exact q_lenV rfl Try.underlying22 rfl | exact q_len rfl Try.underlying22 rfl (Sl.lenOf hv (List.length_map _)) | exact q_len rfl Try.underlying22 rfl (Sl.lenOf hu (List.length_map _)))) ?_
  refine l_q rfl rfl rfl (q_move rfl rfl) ?_
  refine l_q rfl rfl rfl ((by first | exact q_lenV rfl Try.underlying22 rfl | exact q_len rfl Try.underlying22 rfl (Sl.lenOf hv (List.length_map _)) | exact q_len rfl Try.underlying22 rfl (Sl.lenOf hu (List.length_map _)))) ?_
  refine l_q rfl rfl rfl (q_neq rfl rfl rfl) ?_
  refine l_nil ?_
  refine n_then ?_
  refine t_cond rfl (fun hc0 => ?_) (fun hc0 => ?_)
  · skip
    try simp at hc0
    refine t_seq ?_
    refine t_region ?_
    refine l_q rfl rfl rfl (q_assign rfl rfl) ?_
    refine l_nil ?_
    refine n_then ?_
    refine t_ret ?_
    refine n_ret_then ?_
    refine n_ret1 rfl rfl (fun w' hw => ?_)
    -- leaf 0
    refine ⟨?_, hw.below⟩
    rw [decide_eq_false (fun e => hc0 (by rw [e]))]
  · skip
    try simp at hc0
    refine t_skip ?_
    refine n_then ?_
    refine t_seq ?_
    refine t_seq ?_
    refine t_region ?_
    refine l_q rfl rfl rfl (q_assign rfl rfl) ?_
    refine l_nil ?_
    refine n_then ?_
    refine t_block ?_
    refine t_loopE (ι := Nat) (fun zz => zz ≤ xs.length ∧ ∀ j, j < zz → nth xs j ch0 = nth ys j ch0) (fun zz => xs.length - zz) (fun zz => [(5, .int .i64 (zz : Int))]) [(0, _), (1, _), (10, _)] (fun zz => look w) (fun zz => []) 0 ?_ (sub_cons rfl sub_nil) (sub_cons rfl (sub_cons rfl (sub_cons rfl sub_nil))) (fun _ h => subC_st h) ?_
    · try dsimp only
      exact ⟨Nat.zero_le _, fun j hj => absurd hj (Nat.not_lt_zero j)⟩
    rintro i ⟨hi, hall⟩
    try dsimp only at *
    refine t_seq ?_
    refine t_seq ?_
    refine t_region ?_
    refine l_q rfl rfl rfl (q_move rfl rfl) ?_
    refine l_q rfl rfl rfl (q_move rfl rfl) ?_
    refine l_q rfl rfl rfl ((by first | exact q_lenV rfl Try.underlying22 rfl | exact q_len rfl Try.underlying22 rfl (Sl.lenOf hv (List.length_map _)) | exact q_len rfl Try.underlying22 rfl (Sl.lenOf hu (List.length_map _)))) ?_
    refine l_q rfl rfl rfl (q_lss rfl rfl rfl) ?_
    refine l_nil ?_
    refine n_then ?_
    refine t_cond rfl (fun hc1 => ?_) (fun hc1 => ?_)
    · skip
      try simp at hc1
      refine t_skip ?_
      refine n_then ?_
      refine t_seq ?_
      refine t_block ?_
      refine t_seq ?_
      refine t_qdraw mo (by kernel_rfl) (fun _ _ _ _ _ h => h) ?_
      refine s_q rfl rfl rfl (q_move rfl rfl) ?_
      refine s_q rfl rfl rfl (q_move rfl rfl) ?_
      refine s_q rfl rfl rfl ((by first | exact q_indexAddrVN rfl Try.underlying22 ti29 rfl rfl (by omega) | exact q_indexAddrN rfl Try.underlying22 ti29 rfl rfl (Sl.shape hv (List.length_map _)) (by omega) | exact q_indexAddrN rfl Try.underlying22 ti29 rfl rfl (Sl.shape hu (List.length_map _)) (by omega) | exact q_indexAddrV rfl Try.underlying22 ti29 rfl rfl (by omega) | exact q_indexAddr rfl Try.underlying22 ti29 rfl rfl (Sl.shape hv (List.length_map _)) (by omega) | exact q_indexAddr rfl Try.underlying22 ti29 rfl rfl (Sl.shape hu (List.length_map _)) (by omega))) ?_
      refine s_q rfl rfl rfl ((by first | exact q_load_rowA rfl Try.underlying29 ti29 rfl rfl rfl | exact q_load_agg rfl Try.underlying29 ti29 rfl rfl (rds_ch0 (i := i) hv (by omega)) | exact q_load_agg rfl Try.underlying29 ti29 rfl rfl (rds_ch0 (i := i) hu (by omega)))) ?_
      refine s_q rfl rfl rfl (q_move rfl rfl) ?_
      refine s_q rfl rfl rfl (q_move rfl rfl) ?_
      refine s_q rfl rfl rfl ((by first | exact q_indexAddrVN rfl Try.underlying22 ti29 rfl rfl (by omega) | exact q_indexAddrN rfl Try.underlying22 ti29 rfl rfl (Sl.shape hv (List.length_map _)) (by omega) | exact q_indexAddrN rfl Try.underlying22 ti29 rfl rfl (Sl.shape hu (List.length_map _)) (by omega) | exact q_indexAddrV rfl Try.underlying22 ti29 rfl rfl (by omega) | exact q_indexAddr rfl Try.underlying22 ti29 rfl rfl (Sl.shape hv (List.length_map _)) (by omega) | exact q_indexAddr rfl Try.underlying22 ti29 rfl rfl (Sl.shape hu (List.length_map _)) (by omega))) ?_
      refine s_q rfl rfl rfl ((by first | exact q_load_rowA rfl Try.underlying29 ti29 rfl rfl rfl | exact q_load_agg rfl Try.underlying29 ti29 rfl rfl (rds_ch0 (i := i) hv (by omega)) | exact q_load_agg rfl Try.underlying29 ti29 rfl rfl (rds_ch0 (i := i) hu (by omega)))) ?_
      refine s_q rfl rfl rfl (q_neq_st rfl (by kernel_rfl) rfl rfl (eqCh _ _)) ?_
      refine s_done ?_
      refine n_then ?_
      refine t_cond rfl (fun hc2 => ?_) (fun hc2 => ?_)
      · skip
        simp only [Bool.not_eq_true', Bool.not_eq_false', decide_eq_true_eq, decide_eq_false_iff_not] at hc2
        refine t_seq ?_
        refine t_region ?_
        refine l_q rfl rfl rfl (q_assign rfl rfl) ?_
        refine l_nil ?_
        refine n_then ?_
        refine t_ret ?_
        refine n_ret_block ?_
        refine n_ret_then ?_
        refine n_ret_then ?_
        refine n_ret_block ?_
        refine n_ret_then ?_
        refine n_ret1 rfl rfl (fun w' hw => ?_)
        -- leaf 1
        refine ⟨?_, hw.below⟩
        rw [decide_eq_false (fun e => hc2 (by rw [e]))]
      · skip
        simp only [Bool.not_eq_true', Bool.not_eq_false', decide_eq_true_eq, decide_eq_false_iff_not] at hc2
        refine t_skip ?_
        refine n_block ?_
        refine n_then ?_
        refine t_region ?_
        refine l_q rfl rfl rfl (q_move rfl rfl) ?_
        refine l_q rfl rfl rfl (q_add64 rfl rfl rfl (by omega)) ?_
        refine l_q rfl rfl rfl (q_assign rfl rfl) ?_
        refine l_nil ?_
        refine n_roundE (i + 1) ?_ ?_ (sub_cons rfl sub_nil) (sub_cons rfl (sub_cons rfl (sub_cons rfl sub_nil))) (fun _ h => by try dsimp only; exact subC_st h)
        · try dsimp only
          refine ⟨by omega, fun j hj => ?_⟩
          rcases Nat.lt_succ_iff_lt_or_eq.1 hj with h | rfl
          · exact hall j h
          · exact hc2
        · try dsimp only
          omega
    · skip
      try simp at hc1
      refine t_exit ?_
      refine n_exit_then ?_
      refine n_exit_then ?_
      refine n_exit_block ?_
      refine n_then ?_
      refine t_seq ?_
      refine t_region ?_
      refine l_q rfl rfl rfl (q_assign rfl rfl) ?_
      refine l_nil ?_
      refine n_then ?_
      refine t_ret ?_
      refine n_ret1 rfl rfl (fun w' hw => ?_)
      -- leaf 2
      refine ⟨?_, hw.below⟩
      rw [decide_eq_true (beq_lists (by omega) ch0 (fun j hj => hall j (by omega)))]
end Go.Tri
