/-
  A number of base 8 read.
-/
import Derived.Test.YtigfpkcaakkgaaaDoorOA11
namespace Go.Tri
open Go.Proofs Go.RowKit
theorem octV_take {s : List UInt8} {i : Nat} (h : i < s.length) : octV (s.take (i + 1)) = octV (s.take i) * 8 + ((nth s i 0).toNat - 48) := by rw [take_nth 0 h, octV_snoc]
theorem digB_at {s : List UInt8} (h : s.all digB = true) {i : Nat} (hi : i < s.length) : 48 ≤ (nth s i 0).toNat ∧ (nth s i 0).toNat ≤ 55 := by
  have h1 := List.all_eq_true.1 h _ (nth_mem (d := 0) hi)
  unfold digB at h1
  rw [Bool.and_eq_true, decide_eq_true_eq, decide_eq_true_eq] at h1
  exact h1
theorem octV_le {s : List UInt8} (h : s.all digB = true) (hl : s.length ≤ 6) (i : Nat) : octV (s.take i) < 262144 := by
  have h1 := octV_lt _ (s.take i) (Nat.le_refl _) (List.all_eq_true.2 fun c hc => List.all_eq_true.1 h c (List.mem_of_mem_take hc))
  have h2 : (s.take i).length ≤ 6 := by rw [List.length_take]; omega
  have h3 : 8 ^ (s.take i).length ≤ 8 ^ 6 := Nat.pow_le_pow_right (by decide) h2
  omega
set_option maxRecDepth 10000 in
set_option maxHeartbeats 1000000 in
theorem puint_pure (s : List UInt8) (w : World) (hne : s ≠ []) (hl : s.length ≤ 6) (hd : s.all digB = true) : Pure Tryd.prog 59 [str s, .int .i64 8, .int .i64 64] w (.tuple #[.int .u64 (octV s : Int), .nilIface]) := by
  refine enter Tryd.func59 rfl Tryd.ntmps59 rfl (St.start w (look w) (Le.refl _)) ?_
  refine t_seq ?_
  refine t_region ?_
  refine l_q rfl rfl rfl (q_assign rfl rfl) ?_
  refine l_q rfl rfl rfl (q_assign rfl rfl) ?_
  refine l_nil ?_
  refine n_then ?_
  refine t_seq ?_
  refine t_seq ?_
  refine t_region ?_
  refine l_q rfl rfl rfl (q_move rfl rfl) ?_
  refine l_q rfl rfl rfl (q_eql_str rfl rfl rfl) ?_
  refine l_nil ?_
  refine n_then ?_
  refine t_cond rfl (fun hc0 => ?_) (fun hc0 => ?_)
  · skip
    exact absurd (of_decide_eq_true hc0) hne
  · skip
    refine t_skip ?_
    refine n_then ?_
    refine t_seq ?_
    refine t_region ?_
    refine l_q rfl rfl rfl (q_move rfl rfl) ?_
    refine l_q rfl rfl rfl (q_eql rfl rfl rfl) ?_
    refine l_q rfl rfl rfl (q_assign rfl rfl) ?_
    refine l_nil ?_
    refine n_then ?_
    refine t_seq ?_
    refine t_region ?_
    refine l_q rfl rfl rfl (q_move rfl rfl) ?_
    refine l_q rfl rfl rfl (q_assign rfl rfl) ?_
    refine l_nil ?_
    refine n_then ?_
    refine t_seq ?_
    refine t_block ?_
    refine t_seq ?_
    refine t_qreg ?_
    refine s_q rfl rfl rfl (q_move rfl rfl) ?_
    refine s_q rfl rfl rfl (q_leq rfl rfl rfl) ?_
    refine s_q rfl rfl rfl (q_move rfl rfl) ?_
    refine s_and2 2 2 28 31 30 _ _ rfl rfl rfl rfl rfl rfl (fun h31 => by
        try simp at h31
        refine s_g rfl rfl rfl rfl rfl rfl (q_move rfl rfl) ?_
        refine s_g rfl rfl rfl rfl rfl rfl (q_leq rfl rfl rfl) ?_
        exact s_val rfl
      ) (wanted_n rfl) rfl rfl rfl ?_
    refine s_q rfl rfl rfl (q_assign rfl rfl) ?_
    refine s_done ?_
    refine n_then ?_
    refine t_cond rfl (fun hc1 => ?_) (fun hc1 => ?_)
    · skip
      refine t_skip ?_
      refine n_block ?_
      refine n_then ?_
      refine t_seq ?_
      refine t_seq ?_
      refine t_region ?_
      refine l_q rfl rfl rfl (q_move rfl rfl) ?_
      refine l_q rfl rfl rfl (q_eql rfl rfl rfl) ?_
      refine l_nil ?_
      refine n_then ?_
      refine t_cond rfl (fun hc2 => ?_) (fun hc2 => ?_)
      · skip
        exact absurd hc2 (by decide)
      · skip
        refine t_seq ?_
        refine t_qreg ?_
        refine s_q rfl rfl rfl (q_move rfl rfl) ?_
        refine s_q rfl rfl rfl (q_lss rfl rfl rfl) ?_
        refine s_q rfl rfl rfl (q_move rfl rfl) ?_
        refine s_or2 2 2 80 83 82 _ _ rfl rfl rfl rfl rfl rfl (fun h83 => by
            try simp at h83
            refine s_g rfl rfl rfl rfl rfl rfl (q_move rfl rfl) ?_
            refine s_g rfl rfl rfl rfl rfl rfl (q_gtr rfl rfl rfl) ?_
            exact s_val rfl
          ) (wanted_n rfl) rfl rfl rfl ?_
        refine s_done ?_
        refine n_then ?_
        refine t_cond rfl (fun hc3 => ?_) (fun hc3 => ?_)
        · skip
          exact absurd hc3 (by decide)
        · skip
          refine t_skip ?_
          refine n_then ?_
          refine t_seq ?_
          refine t_region ?_
          refine l_q rfl rfl rfl (q_assign rfl rfl) ?_
          refine l_nil ?_
          refine n_then ?_
          refine t_seq ?_
          refine t_seq ?_
          refine t_region ?_
          refine l_q rfl rfl rfl (q_move rfl rfl) ?_
          refine l_nil ?_
          refine n_then ?_
          refine t_block ?_
          refine t_seq ?_
          refine t_region ?_
          refine l_q rfl rfl rfl (q_eql rfl rfl rfl) ?_
          refine l_q rfl rfl rfl (q_assign rfl rfl) ?_
          refine l_nil ?_
          refine n_then ?_
          refine t_cond rfl (fun hc4 => ?_) (fun hc4 => ?_)
          · skip
            exact absurd hc4 (by decide)
          · skip
            refine t_seq ?_
            refine t_region ?_
            refine l_q rfl rfl rfl (q_eql rfl rfl rfl) ?_
            refine l_q rfl rfl rfl (q_assign rfl rfl) ?_
            refine l_nil ?_
            refine n_then ?_
            refine t_cond rfl (fun hc5 => ?_) (fun hc5 => ?_)
            · skip
              exact absurd hc5 (by decide)
            · skip
              refine t_region ?_
              refine l_q rfl rfl rfl (q_move rfl rfl) ?_
              refine l_q rfl rfl rfl (q_convU 8 rfl Tryd.underlying3 Tryd.underlying68 rfl rfl (by decide)) ?_
              refine l_q rfl rfl rfl (q_quoU 18446744073709551615 8 rfl rfl rfl (by decide) (by decide)) ?_
              refine l_q rfl rfl rfl (q_addU (18446744073709551615 / 8) 1 rfl rfl rfl (by decide)) ?_
              refine l_q rfl rfl rfl (q_assign rfl rfl) ?_
              refine l_nil ?_
              refine n_block ?_
              refine n_then ?_
              refine t_seq ?_
              refine t_region ?_
              refine l_q rfl rfl rfl (q_move rfl rfl) ?_
              refine l_q rfl rfl rfl (q_convU 64 rfl Tryd.underlying3 Tryd.underlying78 rfl rfl (by decide)) ?_
              refine l_q rfl rfl rfl (q_shl64 rfl rfl rfl) ?_
              refine l_q rfl rfl rfl (q_sub01 rfl rfl rfl) ?_
              refine l_q rfl rfl rfl (q_assign rfl rfl) ?_
              refine l_nil ?_
              refine n_then ?_
              refine t_seq ?_
              refine t_region ?_
              refine l_q rfl rfl rfl (q_assign rfl rfl) ?_
              refine l_nil ?_
              refine n_then ?_
              refine t_seq ?_
              refine t_region ?_
              refine l_q rfl rfl rfl (q_assign rfl rfl) ?_
              refine l_nil ?_
              refine n_then ?_
              refine t_seq ?_
              refine t_seq ?_
              refine t_region ?_
              refine l_q rfl rfl rfl (q_move rfl rfl) ?_
              refine l_e rfl rfl rfl (e_strBytes rfl Tryd.underlying9 Tryd.underlying30 Tryd.underlying5 rfl) ?_
              rintro v99 J99 _ ⟨hJ99, hs99, rfl⟩
              refine l_q rfl rfl rfl ((by first | exact q_lenV rfl Tryd.underlying30 rfl | exact q_len rfl Tryd.underlying30 rfl (Sl.lenOf hs99 (List.length_map _)))) ?_
              refine l_q rfl rfl rfl (q_move rfl rfl) ?_
              refine l_nil ?_
              refine n_then ?_
              refine t_block ?_
              refine t_loopE (ι := Nat) (fun zz => zz ≤ s.length) (fun zz => s.length - zz) (fun zz => [(101, .int .i64 (zz : Int)), (13, .int .u64 (octV (s.take zz) : Int)), (12, .bool false)]) [(0, _), (1, _), (2, _), (19, _), (8, _), (9, _), (25, _), (77, _), (83, _), (10, _), (85, _), (90, _), (92, _), (11, _), (99, _), (100, _)] (fun zz => J99) (fun zz => []) 0 ?_ (sub_cons rfl (sub_cons rfl (sub_cons rfl sub_nil))) (sub_cons rfl (sub_cons rfl (sub_cons rfl (sub_cons rfl (sub_cons rfl (sub_cons rfl (sub_cons rfl (sub_cons rfl (sub_cons rfl (sub_cons rfl (sub_cons rfl (sub_cons rfl (sub_cons rfl (sub_cons rfl (sub_cons rfl (sub_cons rfl sub_nil)))))))))))))))) (fun _ h => subC_st h) ?_
              · try dsimp only
                exact Nat.zero_le _
              rintro i hi
              try dsimp only at *
              have hov := octV_le hd hl i
              have hov2 := octV_le hd hl (i + 1)
              refine t_seq ?_
              refine t_region ?_
              refine l_q rfl rfl rfl (q_lss rfl rfl rfl) ?_
              refine l_nil ?_
              refine n_then ?_
              refine t_seq ?_
              refine t_cond rfl (fun hc6 => ?_) (fun hc6 => ?_)
              · skip
                try simp at hc6
                have hil : i < s.length := by omega
                obtain ⟨hg1, hg2⟩ := digB_at hd hil
                have hot := octV_take hil
                refine t_skip ?_
                refine n_then ?_
                refine t_seq ?_
                refine t_block ?_
                refine t_seq ?_
                refine t_region ?_
                refine l_q rfl rfl rfl ((by first | exact q_indexAddrVN rfl Tryd.underlying30 ti5 rfl rfl (by omega) | exact q_indexAddrN rfl Tryd.underlying30 ti5 rfl rfl (Sl.shape hs99 (List.length_map _)) (by omega) | exact q_indexAddrV rfl Tryd.underlying30 ti5 rfl rfl (by omega) | exact q_indexAddr rfl Tryd.underlying30 ti5 rfl rfl (Sl.shape hs99 (List.length_map _)) (by omega))) ?_
                refine l_q rfl rfl rfl ((by first | exact q_load_row rfl Tryd.underlying5 rfl rfl (by rfl) | exact q_load rfl Tryd.underlying5 rfl rfl (rd_by hs99 (by omega)))) ?_
                refine l_q rfl rfl rfl (q_assign rfl rfl) ?_
                refine l_nil ?_
                refine n_then ?_
                refine t_seq ?_
                refine t_region ?_
                refine l_q rfl rfl rfl (q_assign rfl rfl) ?_
                refine l_nil ?_
                refine n_then ?_
                refine t_seq ?_
                refine t_block ?_
                refine t_seq ?_
                refine t_qreg ?_
                refine s_q rfl rfl rfl (q_move rfl rfl) ?_
                refine s_q rfl rfl rfl (q_eql_u8c rfl rfl rfl rfl) ?_
                refine s_q rfl rfl rfl (q_move rfl rfl) ?_
                refine s_and2 1 2 109 111 110 _ _ rfl rfl rfl rfl rfl rfl (fun h111 => by
                    try simp at h111
                    refine s_g rfl rfl rfl rfl rfl rfl (q_move rfl rfl) ?_
                    exact s_val rfl
                  ) (wanted_n rfl) rfl rfl rfl ?_
                refine s_q rfl rfl rfl (q_assign rfl rfl) ?_
                refine s_done ?_
                refine n_then ?_
                refine t_cond rfl (fun hc7 => ?_) (fun hc7 => ?_)
                · skip
                  try simp at hc7
                · skip
                  try simp at hc7
                  refine t_seq ?_
                  refine t_qreg ?_
                  refine s_q rfl rfl rfl (q_move rfl rfl) ?_
                  refine s_q rfl rfl rfl (q_leq rfl rfl rfl) ?_
                  refine s_q rfl rfl rfl (q_move rfl rfl) ?_
                  refine s_and2 2 2 115 118 117 _ _ rfl rfl rfl rfl rfl rfl (fun h118 => by
                      try simp at h118
                      refine s_g rfl rfl rfl rfl rfl rfl (q_move rfl rfl) ?_
                      refine s_g rfl rfl rfl rfl rfl rfl (q_leq rfl rfl rfl) ?_
                      exact s_val rfl
                    ) (wanted_n rfl) rfl rfl rfl ?_
                  refine s_q rfl rfl rfl (q_assign rfl rfl) ?_
                  refine s_done ?_
                  refine n_then ?_
                  refine t_cond rfl (fun hc8 => ?_) (fun hc8 => ?_)
                  · skip
                    try simp at hc8
                    refine t_region ?_
                    refine l_q rfl rfl rfl (q_move rfl rfl) ?_
                    refine l_q rfl rfl rfl (q_sub_u8 48 rfl rfl rfl (by omega)) ?_
                    refine l_q rfl rfl rfl (q_assign rfl rfl) ?_
                    refine l_nil ?_
                    refine n_block ?_
                    refine n_then ?_
                    refine t_seq ?_
                    refine t_seq ?_
                    refine t_region ?_
                    refine l_q rfl rfl rfl (q_move rfl rfl) ?_
                    refine l_q rfl rfl rfl (q_move rfl rfl) ?_
                    refine l_q rfl rfl rfl (q_conv_u8 8 rfl Tryd.underlying3 Tryd.underlying5 rfl rfl) ?_
                    refine l_q rfl rfl rfl (q_geq rfl rfl rfl) ?_
                    refine l_nil ?_
                    refine n_then ?_
                    refine t_cond rfl (fun hc9 => ?_) (fun hc9 => ?_)
                    · skip
                      exfalso
                      have h9 := of_decide_eq_true hc9
                      simp at h9
                      omega
                    · skip
                      refine t_skip ?_
                      refine n_then ?_
                      refine t_seq ?_
                      refine t_seq ?_
                      refine t_region ?_
                      refine l_q rfl rfl rfl (q_move rfl rfl) ?_
                      refine l_q rfl rfl rfl (q_move rfl rfl) ?_
                      refine l_q rfl rfl rfl (q_geq rfl rfl rfl) ?_
                      refine l_nil ?_
                      refine n_then ?_
                      refine t_cond rfl (fun hc10 => ?_) (fun hc10 => ?_)
                      · skip
                        try simp at hc10
                        omega
                      · skip
                        try simp at hc10
                        refine t_skip ?_
                        refine n_then ?_
                        refine t_seq ?_
                        refine t_region ?_
                        refine l_q rfl rfl rfl (q_move rfl rfl) ?_
                        refine l_q rfl rfl rfl (q_move rfl rfl) ?_
                        refine l_q rfl rfl rfl (q_convU 8 rfl Tryd.underlying3 Tryd.underlying68 rfl rfl (by decide)) ?_
                        refine l_q rfl rfl rfl (q_mulU (octV (s.take i)) 8 rfl rfl rfl (by omega)) ?_
                        refine l_q rfl rfl rfl (q_assign rfl rfl) ?_
                        refine l_nil ?_
                        refine n_then ?_
                        refine t_seq ?_
                        refine t_region ?_
                        refine l_q rfl rfl rfl (q_move rfl rfl) ?_
                        refine l_q rfl rfl rfl (q_move rfl rfl) ?_
                        refine l_q rfl rfl rfl (q_convU ((nth s i 0).toNat - 48) rfl Tryd.underlying5 Tryd.underlying68 rfl rfl (by omega)) ?_
                        refine l_q rfl rfl rfl (q_addU (octV (s.take i) * 8) ((nth s i 0).toNat - 48) rfl rfl rfl (by omega)) ?_
                        refine l_q rfl rfl rfl (q_assign rfl rfl) ?_
                        refine l_nil ?_
                        refine n_then ?_
                        refine t_seq ?_
                        refine t_seq ?_
                        refine t_qreg ?_
                        refine s_q rfl rfl rfl (q_move rfl rfl) ?_
                        refine s_q rfl rfl rfl (q_move rfl rfl) ?_
                        refine s_q rfl rfl rfl (q_lss rfl rfl rfl) ?_
                        refine s_q rfl rfl rfl (q_move rfl rfl) ?_
                        refine s_or2 3 3 155 159 158 _ _ rfl rfl rfl rfl rfl rfl (fun h159 => by
                            try simp at h159
                            refine s_g rfl rfl rfl rfl rfl rfl (q_move rfl rfl) ?_
                            refine s_g rfl rfl rfl rfl rfl rfl (q_move rfl rfl) ?_
                            refine s_g rfl rfl rfl rfl rfl rfl (q_gtr rfl rfl rfl) ?_
                            exact s_val rfl
                          ) (wanted_n rfl) rfl rfl rfl ?_
                        refine s_done ?_
                        refine n_then ?_
                        refine t_cond rfl (fun hc11 => ?_) (fun hc11 => ?_)
                        · skip
                          exfalso
                          simp at hc11 <;> omega
                        · skip
                          refine t_skip ?_
                          refine n_then ?_
                          refine t_region ?_
                          refine l_q rfl rfl rfl (q_move rfl rfl) ?_
                          refine l_q rfl rfl rfl (q_assign rfl rfl) ?_
                          refine l_nil ?_
                          refine n_block ?_
                          refine n_then ?_
                          refine t_region ?_
                          refine l_q rfl rfl rfl (q_add64 rfl rfl rfl (by omega)) ?_
                          refine l_q rfl rfl rfl (q_move rfl rfl) ?_
                          refine l_nil ?_
                          refine n_roundE (i + 1) ?_ ?_ (sub_cons rfl (sub_cons' rfl (congrArg (Value.int IntKind.u64) (by rw [octV_take (by omega)])) (sub_cons rfl sub_nil))) (sub_cons rfl (sub_cons rfl (sub_cons rfl (sub_cons rfl (sub_cons rfl (sub_cons rfl (sub_cons rfl (sub_cons rfl (sub_cons rfl (sub_cons rfl (sub_cons rfl (sub_cons rfl (sub_cons rfl (sub_cons rfl (sub_cons rfl (sub_cons rfl sub_nil)))))))))))))))) (fun _ h => by try dsimp only; exact subC_st h)
                          · try dsimp only
                            omega
                          · try dsimp only
                            omega
                  · skip
                    try simp at hc8
                    omega
              · skip
                try simp at hc6
                refine t_exit ?_
                refine n_exit_then ?_
                refine n_exit_then ?_
                refine n_exit_block ?_
                refine n_then ?_
                refine t_seq ?_
                refine t_seq ?_
                refine t_qreg ?_
                refine s_q rfl rfl rfl (q_move rfl rfl) ?_
                refine s_q rfl rfl rfl (q_move rfl rfl) ?_
                refine s_and2 3 1 165 169 168 _ false rfl rfl rfl rfl rfl rfl (fun h169 => by
                    cases h169
                  ) (wanted_n rfl) rfl rfl rfl ?_
                refine s_done ?_
                refine n_then ?_
                refine t_cond rfl (fun hc12 => ?_) (fun hc12 => ?_)
                · skip
                  exact absurd hc12 (by decide)
                · skip
                  refine t_skip ?_
                  refine n_then ?_
                  refine t_seq ?_
                  refine t_region ?_
                  refine l_q rfl rfl rfl (q_move rfl rfl) ?_
                  refine l_q rfl rfl rfl (q_assign rfl rfl) ?_
                  refine l_q rfl rfl rfl (q_assign rfl rfl) ?_
                  refine l_nil ?_
                  refine n_then ?_
                  refine t_ret ?_
                  refine n_ret2 rfl rfl rfl (fun w' hw => ?_)
                  -- leaf 0
                  refine ⟨?_, (hw.less hJ99).below⟩
                  rw [show i = s.length by omega, List.take_length]
    · skip
      exact absurd hc1 (by decide)
end Go.Tri
