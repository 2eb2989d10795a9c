/-
  What is a name.
-/
import Derived.Test.YtbogmbdfjgnfaaaGreatDoorEA8
namespace Go.Tri
open Go.Proofs Go.RowKit
theorem okN_eq (s : List UInt8) (i : Nat) : (!letterB (nth s i 0) && (decide ((i : Int) = 0) || decide (((nth s i 0).toNat : Int) < 48) || decide (57 < ((nth s i 0).toNat : Int)))) = !okN s i := by
  unfold okN digitB'
  by_cases h1 : (i : Int) = 0 <;> by_cases h2 : ((nth s i 0).toNat : Int) < 48 <;> by_cases h3 : 57 < ((nth s i 0).toNat : Int) <;> cases letterB (nth s i 0) <;> simp [h1, h2, h3] <;> omega
theorem okN_bad {s : List UInt8} {i : Nat} (h : (!letterB (nth s i 0) && (decide ((i : Int) = 0) || decide (((nth s i 0).toNat : Int) < 48) || decide (57 < ((nth s i 0).toNat : Int)))) = true) : okN s i = false := by
  rw [okN_eq] at h; simpa using h
theorem okN_good {s : List UInt8} {i : Nat} (h : (!letterB (nth s i 0) && (decide ((i : Int) = 0) || decide (((nth s i 0).toNat : Int) < 48) || decide (57 < ((nth s i 0).toNat : Int)))) = false) : okN s i = true := by
  rw [okN_eq] at h; simpa using h
set_option maxRecDepth 10000 in
theorem name_pure (s : List UInt8) (w : World) (hs : s.length ≤ 4611686018427387904) : Pure Tryz.prog 140 [str s] w (.bool (nameB s)) := by
  refine enter Tryz.func140 rfl Tryz.ntmps140 rfl (St.start w (look w) (Le.refl _)) ?_
  refine t_seq ?_
  refine t_region ?_
  refine l_q rfl rfl rfl (q_assign rfl rfl) ?_
  refine l_nil ?_
  refine n_then ?_
  refine t_seq ?_
  refine t_seq ?_
  refine t_region ?_
  refine l_q rfl rfl rfl (q_move rfl rfl) ?_
  refine l_e rfl rfl rfl (e_strBytes rfl Tryz.underlying9 Tryz.underlying104 Tryz.underlying5 rfl) ?_
  rintro v6 J6 _ ⟨hJ6, hs6, rfl⟩
  refine l_q rfl rfl rfl ((by first | exact q_lenV rfl Tryz.underlying104 rfl | exact q_len rfl Tryz.underlying104 rfl (Sl.lenOf hs6 (List.length_map _)))) ?_
  refine l_q rfl rfl rfl (q_move rfl rfl) ?_
  refine l_nil ?_
  refine n_then ?_
  refine t_block ?_
  refine t_loopE (ι := Nat) (fun i => i ≤ s.length ∧ ∀ k, k < i → okN s k = true) (fun i => s.length - i) (fun i => [(8, .int .i64 (i : Int))]) [(0, _), (6, _), (7, _)] (fun i => J6) (fun i => []) 0 ?_ (sub_cons rfl sub_nil) (sub_cons rfl (sub_cons rfl (sub_cons rfl sub_nil))) (fun _ h => subC_st h) ?_
  · try dsimp only
    exact ⟨Nat.zero_le _, fun k hk => absurd hk (Nat.not_lt_zero _)⟩
  rintro i ⟨hi, hok⟩
  refine t_seq ?_
  refine t_region ?_
  refine l_q rfl rfl rfl (q_lss rfl rfl rfl) ?_
  refine l_nil ?_
  refine n_then ?_
  refine t_seq ?_
  refine t_cond rfl (fun hc0 => ?_) (fun hc0 => ?_)
  · skip
    try simp at hc0
    refine t_skip ?_
    refine n_then ?_
    refine t_seq ?_
    refine t_block ?_
    refine t_seq ?_
    refine t_region ?_
    refine l_q rfl rfl rfl (q_move rfl rfl) ?_
    refine l_q rfl rfl rfl ((by first | exact q_indexAddrVN rfl Tryz.underlying104 ti5 rfl rfl (by omega) | exact q_indexAddrN rfl Tryz.underlying104 ti5 rfl rfl (Sl.shape hs6 (List.length_map _)) (by omega) | exact q_indexAddrV rfl Tryz.underlying104 ti5 rfl rfl (by omega) | exact q_indexAddr rfl Tryz.underlying104 ti5 rfl rfl (Sl.shape hs6 (List.length_map _)) (by omega))) ?_
    refine l_q rfl rfl rfl ((by first | exact q_load_row rfl Tryz.underlying5 rfl rfl (by rfl) | exact q_load rfl Tryz.underlying5 rfl rfl (rd_by hs6 (by omega)))) ?_
    refine l_q rfl rfl rfl (q_assign rfl rfl) ?_
    refine l_q rfl rfl rfl (q_assign rfl rfl) ?_
    refine l_nil ?_
    refine n_then ?_
    refine t_seq ?_
    refine t_qreg ?_
    refine s_q rfl rfl rfl (q_move rfl rfl) ?_
    refine s_q rfl rfl rfl (quiet_call rfl rfl rfl Tryz.func18 (by kernel_rfl) rfl ((fun w _ => letter_pure _ w))) ?_
    refine s_q rfl rfl rfl (q_not rfl rfl) ?_
    refine s_q rfl rfl rfl (q_move rfl rfl) ?_
    refine s_and2 10 3 16 27 26 _ _ rfl rfl rfl rfl rfl rfl (fun h27 => by
        try simp at h27
        refine s_g rfl rfl rfl rfl rfl rfl (q_move rfl rfl) ?_
        refine s_g rfl rfl rfl rfl rfl rfl (q_eql rfl rfl rfl) ?_
        refine s_g rfl rfl rfl rfl rfl rfl (q_move rfl rfl) ?_
        refine s_or2 2 6 19 22 21 _ _ rfl rfl rfl rfl rfl rfl (fun h22 => by
            try simp at h22
            refine s_g rfl rfl rfl rfl rfl rfl (q_move rfl rfl) ?_
            refine s_g rfl rfl rfl rfl rfl rfl (q_lss rfl rfl rfl) ?_
            exact s_val rfl
          ) (wanted_g rfl rfl rfl rfl) rfl rfl rfl ?_
        refine s_g rfl rfl rfl rfl rfl rfl (q_move rfl rfl) ?_
        refine s_or2 2 10 23 26 25 _ _ rfl rfl rfl rfl rfl rfl (fun h26 => by
            try simp at h26
            refine s_g rfl rfl rfl rfl rfl rfl (q_move rfl rfl) ?_
            refine s_g rfl rfl rfl rfl rfl rfl (q_gtr rfl rfl rfl) ?_
            exact s_val rfl
          ) (wanted_g rfl rfl rfl rfl) rfl rfl rfl ?_
        exact s_val rfl
      ) (wanted_n rfl) rfl rfl rfl ?_
    refine s_done ?_
    refine n_then ?_
    refine t_cond rfl (fun hc1 => ?_) (fun hc1 => ?_)
    · skip
      have hokk : okN s i = false := okN_bad hc1
      refine t_seq ?_
      refine t_region ?_
      refine l_q rfl rfl rfl (q_assign rfl rfl) ?_
      refine l_nil ?_
      refine n_then ?_
      refine t_ret ?_
      refine n_ret_block ?_
      refine n_ret_then ?_
      refine n_ret_then ?_
      refine n_ret_block ?_
      refine n_ret_then ?_
      refine n_ret1 rfl rfl (fun w' hw => ?_)
      -- leaf 0
      refine ⟨?_, (hw.less hJ6).below⟩
      rw [nameB_false (by omega) hokk]
    · skip
      have hokk : okN s i = true := okN_good hc1
      refine t_skip ?_
      refine n_block ?_
      refine n_then ?_
      refine t_region ?_
      refine l_q rfl rfl rfl (q_add64 rfl rfl rfl (by omega)) ?_
      refine l_q rfl rfl rfl (q_move rfl rfl) ?_
      refine l_nil ?_
      refine n_roundE (i + 1) ?_ ?_ (sub_cons rfl sub_nil) (sub_cons rfl (sub_cons rfl (sub_cons rfl sub_nil))) (fun _ h => by try dsimp only; exact subC_st h)
      · try dsimp only
        refine ⟨by omega, fun k hk => ?_⟩
        rcases Nat.lt_succ_iff_lt_or_eq.1 hk with h | rfl
        · exact hok k h
        · exact hokk
      · try dsimp only
        omega
  · skip
    try simp at hc0
    refine t_exit ?_
    refine n_exit_then ?_
    refine n_exit_then ?_
    refine n_exit_block ?_
    refine n_then ?_
    refine t_seq ?_
    refine t_region ?_
    refine l_q rfl rfl rfl (q_move rfl rfl) ?_
    refine l_q rfl rfl rfl (q_neq_str rfl rfl rfl) ?_
    refine l_q rfl rfl rfl (q_assign rfl rfl) ?_
    refine l_nil ?_
    refine n_then ?_
    refine t_ret ?_
    refine n_ret1 rfl rfl (fun w' hw => ?_)
    -- leaf 1
    refine ⟨?_, (hw.less hJ6).below⟩
    rw [nameB_all fun k hk => hok k (by omega)]
end Go.Tri
