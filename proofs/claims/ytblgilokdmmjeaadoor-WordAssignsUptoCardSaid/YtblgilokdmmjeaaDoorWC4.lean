/-
  The reference: a name.
-/
import Derived.Test.YtblgilokdmmjeaaDoorWC1
namespace Go.Tri
open Go.Proofs Go.RowKit
theorem okNr (s : List UInt8) (i : Nat) : (!letterB (nth s i 0) && (decide ((i : Int) = 0) || !digitB' (nth s i 0))) = !okN s i := by
  unfold okN
  by_cases h1 : (i : Int) = 0 <;> cases letterB (nth s i 0) <;> cases digitB' (nth s i 0) <;> simp [h1] <;> omega
set_option maxRecDepth 10000 in
theorem rletter_pure (c : UInt8) (w : World) : Pure Tryd.prog 31 [u8 c] w (.bool (letterB c)) := by
  refine enter Tryd.func31 rfl Tryd.ntmps31 rfl (St.start w (look w) (Le.refl _)) ?_
  refine t_seq ?_
  refine t_region ?_
  refine l_q rfl rfl rfl (q_assign rfl rfl) ?_
  refine l_nil ?_
  refine n_then ?_
  refine t_seq ?_
  refine t_qreg ?_
  refine s_q rfl rfl rfl (q_move rfl rfl) ?_
  refine s_q rfl rfl rfl (q_geq rfl rfl rfl) ?_
  refine s_q rfl rfl rfl (q_move rfl rfl) ?_
  refine s_and2 2 2 5 8 7 _ _ rfl rfl rfl rfl rfl rfl (fun h8 => by
      try simp at h8
      refine s_g rfl rfl rfl rfl rfl rfl (q_move rfl rfl) ?_
      refine s_g rfl rfl rfl rfl rfl rfl (q_leq rfl rfl rfl) ?_
      exact s_val rfl
    ) (wanted_n rfl) rfl rfl rfl ?_
  refine s_q rfl rfl rfl (q_move rfl rfl) ?_
  refine s_or2 6 6 9 16 15 _ _ rfl rfl rfl rfl rfl rfl (fun h16 => by
      try simp at h16
      refine s_g rfl rfl rfl rfl rfl rfl (q_move rfl rfl) ?_
      refine s_g rfl rfl rfl rfl rfl rfl (q_geq rfl rfl rfl) ?_
      refine s_g rfl rfl rfl rfl rfl rfl (q_move rfl rfl) ?_
      refine s_and2 2 9 12 15 14 _ _ rfl rfl rfl rfl rfl rfl (fun h15 => by
          try simp at h15
          refine s_g rfl rfl rfl rfl rfl rfl (q_move rfl rfl) ?_
          refine s_g rfl rfl rfl rfl rfl rfl (q_leq rfl rfl rfl) ?_
          exact s_val rfl
        ) (wanted_g rfl rfl rfl rfl) rfl rfl rfl ?_
      exact s_val rfl
    ) (wanted_n rfl) rfl rfl rfl ?_
  refine s_q rfl rfl rfl (q_move rfl rfl) ?_
  refine s_or2 2 14 17 20 19 _ _ rfl rfl rfl rfl rfl rfl (fun h20 => by
      try simp at h20
      refine s_g rfl rfl rfl rfl rfl rfl (q_move rfl rfl) ?_
      refine s_g rfl rfl rfl rfl rfl rfl (q_eql_u8c rfl rfl rfl rfl) ?_
      exact s_val rfl
    ) (wanted_n rfl) rfl rfl rfl ?_
  refine s_q rfl rfl rfl (q_assign rfl rfl) ?_
  refine s_done ?_
  refine n_then ?_
  refine t_ret ?_
  refine n_ret1 rfl rfl (fun w' hw => ?_)
  -- leaf 0
  refine ⟨?_, hw.below⟩
  rfl
set_option maxRecDepth 10000 in
theorem rdigit_pure (c : UInt8) (w : World) : Pure Tryd.prog 32 [u8 c] w (.bool (digitB' c)) := by
  refine enter Tryd.func32 rfl Tryd.ntmps32 rfl (St.start w (look w) (Le.refl _)) ?_
  refine t_seq ?_
  refine t_region ?_
  refine l_q rfl rfl rfl (q_assign rfl rfl) ?_
  refine l_nil ?_
  refine n_then ?_
  refine t_seq ?_
  refine t_qreg ?_
  refine s_q rfl rfl rfl (q_move rfl rfl) ?_
  refine s_q rfl rfl rfl (q_geq rfl rfl rfl) ?_
  refine s_q rfl rfl rfl (q_move rfl rfl) ?_
  refine s_and2 2 2 5 8 7 _ _ rfl rfl rfl rfl rfl rfl (fun h8 => by
      try simp at h8
      refine s_g rfl rfl rfl rfl rfl rfl (q_move rfl rfl) ?_
      refine s_g rfl rfl rfl rfl rfl rfl (q_leq rfl rfl rfl) ?_
      exact s_val rfl
    ) (wanted_n rfl) rfl rfl rfl ?_
  refine s_q rfl rfl rfl (q_assign rfl rfl) ?_
  refine s_done ?_
  refine n_then ?_
  refine t_ret ?_
  refine n_ret1 rfl rfl (fun w' hw => ?_)
  -- leaf 0
  refine ⟨?_, hw.below⟩
  rfl
set_option maxRecDepth 10000 in
theorem rname_pure (s : List UInt8) (w : World) (hs : s.length ≤ 4611686018427387904) : Pure Tryd.prog 21 [str s] w (.bool (nameB s)) := by
  refine enter Tryd.func21 rfl Tryd.ntmps21 rfl (St.start w (look w) (Le.refl _)) ?_
  refine t_seq ?_
  refine t_region ?_
  refine l_q rfl rfl rfl (q_assign rfl rfl) ?_
  refine l_nil ?_
  refine n_then ?_
  refine t_seq ?_
  refine t_seq ?_
  refine t_region ?_
  refine l_q rfl rfl rfl (q_assign rfl rfl) ?_
  refine l_nil ?_
  refine n_then ?_
  refine t_block ?_
  refine t_loopE (ι := Nat) (fun i => i ≤ s.length ∧ ∀ k, k < i → okN s k = true) (fun i => s.length - i) (fun i => [(3, .int .i64 (i : Int))]) [(0, _)] (fun i => look w) (fun i => []) 0 ?_ (sub_cons rfl sub_nil) (sub_cons rfl sub_nil) (fun _ h => subC_st h) ?_
  · try dsimp only
    exact ⟨Nat.zero_le _, fun k hk => absurd hk (Nat.not_lt_zero _)⟩
  rintro i ⟨hi, hok⟩
  refine t_seq ?_
  refine t_seq ?_
  refine t_region ?_
  refine l_q rfl rfl rfl (q_move rfl rfl) ?_
  refine l_q rfl rfl rfl (q_move rfl rfl) ?_
  refine l_q rfl rfl rfl (q_len_str rfl Tryd.underlying9 rfl) ?_
  refine l_q rfl rfl rfl (q_lss rfl rfl rfl) ?_
  refine l_nil ?_
  refine n_then ?_
  refine t_cond rfl (fun hc0 => ?_) (fun hc0 => ?_)
  · skip
    try simp at hc0
    refine t_skip ?_
    refine n_then ?_
    refine t_seq ?_
    refine t_block ?_
    refine t_seq ?_
    refine t_qreg ?_
    refine s_q rfl rfl rfl (q_move rfl rfl) ?_
    refine s_q rfl rfl rfl (q_move rfl rfl) ?_
    refine s_q rfl rfl rfl ((by first | exact q_index_strN rfl Tryd.underlying9 rfl rfl (by omega) | exact q_index_str rfl Tryd.underlying9 rfl rfl (by omega))) ?_
    refine s_q rfl rfl rfl (quiet_call rfl rfl rfl Tryd.func31 (by kernel_rfl) rfl ((fun w _ => rletter_pure _ w))) ?_
    refine s_q rfl rfl rfl (q_not rfl rfl) ?_
    refine s_q rfl rfl rfl (q_move rfl rfl) ?_
    refine s_and2 9 5 15 25 24 _ _ rfl rfl rfl rfl rfl rfl (fun h25 => by
        try simp at h25
        refine s_g rfl rfl rfl rfl rfl rfl (q_move rfl rfl) ?_
        refine s_g rfl rfl rfl rfl rfl rfl (q_eql rfl rfl rfl) ?_
        refine s_g rfl rfl rfl rfl rfl rfl (q_move rfl rfl) ?_
        refine s_or2 5 8 18 24 23 _ _ rfl rfl rfl rfl rfl rfl (fun h24 => by
            try simp at h24
            refine s_g rfl rfl rfl rfl rfl rfl (q_move rfl rfl) ?_
            refine s_g rfl rfl rfl rfl rfl rfl (q_move rfl rfl) ?_
            refine s_g rfl rfl rfl rfl rfl rfl ((by first | exact q_index_strN rfl Tryd.underlying9 rfl rfl (by omega) | exact q_index_str rfl Tryd.underlying9 rfl rfl (by omega))) ?_
            refine s_g rfl rfl rfl rfl rfl rfl (quiet_call rfl rfl rfl Tryd.func32 (by kernel_rfl) rfl ((fun w _ => rdigit_pure _ w))) ?_
            refine s_g rfl rfl rfl rfl rfl rfl (q_not rfl rfl) ?_
            exact s_val rfl
          ) (wanted_g rfl rfl rfl rfl) rfl rfl rfl ?_
        exact s_val rfl
      ) (wanted_n rfl) rfl rfl rfl ?_
    refine s_done ?_
    refine n_then ?_
    refine t_cond rfl (fun hc1 => ?_) (fun hc1 => ?_)
    · skip
      have hokk : okN s i = false := by have := okNr s i; rw [show _ = true from hc1] at this; simpa using this
      refine t_seq ?_
      refine t_region ?_
      refine l_q rfl rfl rfl (q_assign rfl rfl) ?_
      refine l_nil ?_
      refine n_then ?_
      refine t_ret ?_
      refine n_ret_block ?_
      refine n_ret_then ?_
      refine n_ret_then ?_
      refine n_ret_block ?_
      refine n_ret_then ?_
      refine n_ret1 rfl rfl (fun w' hw => ?_)
      -- leaf 0
      refine ⟨?_, hw.below⟩
      rw [nameB_false (by omega) hokk]
    · skip
      have hokk : okN s i = true := by have := okNr s i; rw [show _ = false from hc1] at this; simpa using this
      refine t_skip ?_
      refine n_block ?_
      refine n_then ?_
      refine t_region ?_
      refine l_q rfl rfl rfl (q_move rfl rfl) ?_
      refine l_q rfl rfl rfl (q_add64 rfl rfl rfl (by omega)) ?_
      refine l_q rfl rfl rfl (q_assign rfl rfl) ?_
      refine l_nil ?_
      refine n_roundE (i + 1) ?_ ?_ (sub_cons rfl sub_nil) (sub_cons rfl sub_nil) (fun _ h => by try dsimp only; exact subC_st h)
      · try dsimp only
        refine ⟨by omega, fun k hk => ?_⟩
        rcases Nat.lt_succ_iff_lt_or_eq.1 hk with h | rfl
        · exact hok k h
        · exact hokk
      · try dsimp only
        omega
  · skip
    try simp at hc0
    refine t_exit ?_
    refine n_exit_then ?_
    refine n_exit_then ?_
    refine n_exit_block ?_
    refine n_then ?_
    refine t_seq ?_
    refine t_region ?_
    refine l_q rfl rfl rfl (q_move rfl rfl) ?_
    refine l_q rfl rfl rfl (q_neq_str rfl rfl rfl) ?_
    refine l_q rfl rfl rfl (q_assign rfl rfl) ?_
    refine l_nil ?_
    refine n_then ?_
    refine t_ret ?_
    refine n_ret1 rfl rfl (fun w' hw => ?_)
    -- leaf 1
    refine ⟨?_, hw.below⟩
    rw [nameB_all fun k hk => hok k (by omega)]
end Go.Tri
