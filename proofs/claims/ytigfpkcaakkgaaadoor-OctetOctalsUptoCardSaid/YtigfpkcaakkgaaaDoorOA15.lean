/-
  The statement: OctetOctals.
-/
import Derived.Test.YtigfpkcaakkgaaaDoorOA14
namespace Go.Tri
open Go.Proofs Go.RowKit
set_option maxRecDepth 10000 in
theorem octetOctals_pure (n : Int) (s : List UInt8) (w : World) (hn : -9223372036854775808 ≤ n ∧ n ≤ 9223372036854775807) (hs : s.length ≤ 1048576) (hG : GO w) : Pure Tryd.prog 7 [.int .i64 n, str s] w (.bool true) := by
  have hol : (octS n).length ≤ 22 := by unfold octS; split; simp; exact octL_big (by omega)
  refine enter Tryd.func7 rfl Tryd.ntmps7 rfl (St.start w (look w) (Le.refl _)) ?_
  refine t_seq ?_
  refine t_region ?_
  refine l_q rfl rfl rfl (q_assign rfl rfl) ?_
  refine l_nil ?_
  refine n_then ?_
  refine t_seq ?_
  refine t_seq ?_
  refine t_region ?_
  refine l_q rfl rfl rfl (quiet_call rfl rfl rfl Tryd.func10 (by kernel_rfl) rfl ((fun w hw => awake_pure w ((hG.le hw.le).gw)))) ?_
  refine l_q rfl rfl rfl (q_not rfl rfl) ?_
  refine l_nil ?_
  refine n_then ?_
  refine t_cond rfl (fun hc0 => ?_) (fun hc0 => ?_)
  · skip
    try simp at hc0
  · skip
    try simp at hc0
    refine t_skip ?_
    refine n_then ?_
    refine t_seq ?_
    refine t_region ?_
    refine l_q rfl rfl rfl (q_move rfl rfl) ?_
    refine l_q rfl rfl rfl (quiet_call rfl rfl rfl Tryd.func19 (by kernel_rfl) rfl ((fun w hw => octal_pure n w hn.2 (hG.le hw.le)))) ?_
    refine l_q rfl rfl rfl (q_assign rfl rfl) ?_
    refine l_nil ?_
    refine n_then ?_
    refine t_seq ?_
    refine t_region ?_
    refine l_q rfl rfl rfl (q_move rfl rfl) ?_
    refine l_q rfl rfl rfl (quiet_call rfl rfl rfl Tryd.func20 (by kernel_rfl) rfl ((fun w _ => fromoct_pure s w (by omega)))) ?_
    refine l_q rfl rfl rfl (q_move rfl rfl) ?_
    refine l_q rfl rfl rfl (q_extract rfl rfl rfl) ?_
    refine l_q rfl rfl rfl (q_extract rfl rfl rfl) ?_
    refine l_q rfl rfl rfl (q_assign rfl rfl) ?_
    refine l_q rfl rfl rfl (q_assign rfl rfl) ?_
    refine l_nil ?_
    refine n_then ?_
    refine t_seq ?_
    refine t_region ?_
    refine l_q rfl rfl rfl (q_move rfl rfl) ?_
    refine l_q rfl rfl rfl (quiet_call rfl rfl rfl Tryd.func21 (by kernel_rfl) rfl ((fun w _ => rfromoct_pure s w (by omega)))) ?_
    refine l_q rfl rfl rfl (q_move rfl rfl) ?_
    refine l_q rfl rfl rfl (q_extract rfl rfl rfl) ?_
    refine l_q rfl rfl rfl (q_extract rfl rfl rfl) ?_
    refine l_q rfl rfl rfl (q_assign rfl rfl) ?_
    refine l_q rfl rfl rfl (q_assign rfl rfl) ?_
    refine l_nil ?_
    refine n_then ?_
    refine t_seq ?_
    refine t_seq ?_
    refine t_qreg ?_
    refine s_q rfl rfl rfl (q_move rfl rfl) ?_
    refine s_q rfl rfl rfl (q_move rfl rfl) ?_
    refine s_q rfl rfl rfl (quiet_call rfl rfl rfl Tryd.func22 (by kernel_rfl) rfl ((fun w _ => roctS_pure n w hn.2))) ?_
    refine s_q rfl rfl rfl (q_neq_str rfl rfl rfl) ?_
    refine s_q rfl rfl rfl (q_move rfl rfl) ?_
    refine s_or2 3 4 30 34 33 _ _ rfl rfl rfl rfl rfl rfl (fun h34 => by
        try simp at h34
        refine s_g rfl rfl rfl rfl rfl rfl (q_move rfl rfl) ?_
        refine s_g rfl rfl rfl rfl rfl rfl (q_move rfl rfl) ?_
        refine s_g rfl rfl rfl rfl rfl rfl (q_neq rfl rfl rfl) ?_
        exact s_val rfl
      ) (wanted_n rfl) rfl rfl rfl ?_
    refine s_q rfl rfl rfl (q_move rfl rfl) ?_
    refine s_or2 3 9 35 39 38 _ _ rfl rfl rfl rfl rfl rfl (fun h39 => by
        try simp at h39
        refine s_g rfl rfl rfl rfl rfl rfl (q_move rfl rfl) ?_
        refine s_g rfl rfl rfl rfl rfl rfl (q_move rfl rfl) ?_
        refine s_g rfl rfl rfl rfl rfl rfl (q_neq_bool rfl Tryd.underlying4 rfl rfl) ?_
        exact s_val rfl
      ) (wanted_n rfl) rfl rfl rfl ?_
    refine s_done ?_
    refine n_then ?_
    refine t_cond rfl (fun hc1 => ?_) (fun hc1 => ?_)
    · skip
      exfalso
      simp at hc1
    · skip
      refine t_skip ?_
      refine n_then ?_
      refine t_seq ?_
      refine t_region ?_
      refine l_q rfl rfl rfl (q_move rfl rfl) ?_
      refine l_q rfl rfl rfl (quiet_call rfl rfl rfl Tryd.func20 (by kernel_rfl) rfl ((fun w _ => fromoct_pure (octS n) w (by omega)))) ?_
      refine l_q rfl rfl rfl (q_move rfl rfl) ?_
      refine l_q rfl rfl rfl (q_extract rfl rfl rfl) ?_
      refine l_q rfl rfl rfl (q_extract rfl rfl rfl) ?_
      refine l_q rfl rfl rfl (q_assign rfl rfl) ?_
      refine l_q rfl rfl rfl (q_assign rfl rfl) ?_
      refine l_nil ?_
      refine n_then ?_
      refine t_seq ?_
      refine t_qreg ?_
      refine s_q rfl rfl rfl (q_move rfl rfl) ?_
      refine s_q rfl rfl rfl (q_lss rfl rfl rfl) ?_
      refine s_q rfl rfl rfl (q_move rfl rfl) ?_
      refine s_or2 2 2 47 50 49 _ _ rfl rfl rfl rfl rfl rfl (fun h50 => by
          try simp at h50
          refine s_g rfl rfl rfl rfl rfl rfl (q_move rfl rfl) ?_
          refine s_g rfl rfl rfl rfl rfl rfl (q_geq rfl rfl rfl) ?_
          exact s_val rfl
        ) (wanted_n rfl) rfl rfl rfl ?_
      refine s_q rfl rfl rfl (q_move rfl rfl) ?_
      refine s_or2 6 6 51 58 57 _ _ rfl rfl rfl rfl rfl rfl (fun h58 => by
          try simp at h58
          refine s_g rfl rfl rfl rfl rfl rfl (q_move rfl rfl) ?_
          refine s_g rfl rfl rfl rfl rfl rfl (q_move rfl rfl) ?_
          refine s_and2 3 8 53 57 56 _ _ rfl rfl rfl rfl rfl rfl (fun h57 => by
              try simp at h57
              refine s_g rfl rfl rfl rfl rfl rfl (q_move rfl rfl) ?_
              refine s_g rfl rfl rfl rfl rfl rfl (q_move rfl rfl) ?_
              refine s_g rfl rfl rfl rfl rfl rfl (q_eql rfl rfl rfl) ?_
              exact s_val rfl
            ) (wanted_g rfl rfl rfl rfl) rfl rfl rfl ?_
          exact s_val rfl
        ) (wanted_n rfl) rfl rfl rfl ?_
      refine s_q rfl rfl rfl (q_assign rfl rfl) ?_
      refine s_done ?_
      refine n_then ?_
      refine t_ret ?_
      refine n_ret1 rfl rfl (fun w' hw => ?_)
      -- leaf 0
      refine ⟨?_, hw.below⟩
      by_cases h1 : n < 0
      · simp [h1]
      by_cases h2 : 262144 ≤ n
      · simp [h2]
      obtain ⟨m, rfl⟩ : ∃ m : Nat, n = m := ⟨n.toNat, by omega⟩
      have h3 := octals_back (n := m) (by omega)
      rw [show octS (m : Int) = octL m by rw [octS, if_neg (by omega), Int.toNat_natCast], h3]
      simp
end Go.Tri
