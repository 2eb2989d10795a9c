/-
  A number of base 8 read, with its sign.
-/
import Derived.Test.YtigfpkcaakkgaaaDoorOA12
namespace Go.Tri
open Go.Proofs Go.RowKit
set_option maxRecDepth 10000 in
theorem pint8i_pure (s : List UInt8) (w : World) (hne : s ≠ []) (hl : s.length ≤ 6) (hd : s.all digB = true) : Pure Tryd.prog 46 [str s, .int .i64 8, .int .i64 64] w (.tuple #[.int .i64 (octV s : Int), .nilIface]) := by
  have hs0 := List.length_pos_iff.2 hne
  obtain ⟨hg1, hg2⟩ := digB_at hd hs0
  have hov := octV_le hd hl s.length
  rw [List.take_length] at hov
  have hnil : ErrIs .nilIface false := .inl ⟨rfl, rfl⟩
  refine enter Tryd.func46 rfl Tryd.ntmps46 rfl (St.start w (look w) (Le.refl _)) ?_
  refine t_seq ?_
  refine t_region ?_
  refine l_q rfl rfl rfl (q_assign rfl rfl) ?_
  refine l_q rfl rfl rfl (q_assign rfl rfl) ?_
  refine l_nil ?_
  refine n_then ?_
  refine t_seq ?_
  refine t_seq ?_
  refine t_region ?_
  refine l_q rfl rfl rfl (q_move rfl rfl) ?_
  refine l_q rfl rfl rfl (q_eql_str rfl rfl rfl) ?_
  refine l_nil ?_
  refine n_then ?_
  refine t_cond rfl (fun hc0 => ?_) (fun hc0 => ?_)
  · skip
    exact absurd (of_decide_eq_true hc0) hne
  · skip
    refine t_skip ?_
    refine n_then ?_
    refine t_seq ?_
    refine t_region ?_
    refine l_q rfl rfl rfl (q_assign rfl rfl) ?_
    refine l_nil ?_
    refine n_then ?_
    refine t_seq ?_
    refine t_seq ?_
    refine t_region ?_
    refine l_q rfl rfl rfl (q_move rfl rfl) ?_
    refine l_q rfl rfl rfl ((by first | exact q_index_strN rfl Tryd.underlying9 rfl rfl (by omega) | exact q_index_str rfl Tryd.underlying9 rfl rfl (by omega))) ?_
    refine l_nil ?_
    refine n_then ?_
    refine t_block ?_
    refine t_seq ?_
    refine t_region ?_
    refine l_q rfl rfl rfl (q_eql_u8c rfl rfl rfl rfl) ?_
    refine l_q rfl rfl rfl (q_assign rfl rfl) ?_
    refine l_nil ?_
    refine n_then ?_
    refine t_cond rfl (fun hc1 => ?_) (fun hc1 => ?_)
    · skip
      exfalso
      have h1 := of_decide_eq_true hc1
      rw [h1] at hg1
      exact absurd hg1 (by decide)
    · skip
      refine t_seq ?_
      refine t_region ?_
      refine l_q rfl rfl rfl (q_eql_u8c rfl rfl rfl rfl) ?_
      refine l_q rfl rfl rfl (q_assign rfl rfl) ?_
      refine l_nil ?_
      refine n_then ?_
      refine t_cond rfl (fun hc2 => ?_) (fun hc2 => ?_)
      · skip
        exfalso
        have h1 := of_decide_eq_true hc2
        rw [h1] at hg1
        exact absurd hg1 (by decide)
      · skip
        refine t_skip ?_
        refine n_block ?_
        refine n_then ?_
        refine t_seq ?_
        refine t_region ?_
        refine l_q rfl rfl rfl (q_assign rfl rfl) ?_
        refine l_nil ?_
        refine n_then ?_
        refine t_seq ?_
        refine t_region ?_
        refine l_q rfl rfl rfl (q_move rfl rfl) ?_
        refine l_q rfl rfl rfl (q_move rfl rfl) ?_
        refine l_q rfl rfl rfl (q_move rfl rfl) ?_
        refine l_q rfl rfl rfl (quiet_call rfl rfl rfl Tryd.func59 (by kernel_rfl) rfl ((fun w _ => puint_pure s w hne hl hd))) ?_
        refine l_q rfl rfl rfl (q_move rfl rfl) ?_
        refine l_q rfl rfl rfl (q_extract rfl rfl rfl) ?_
        refine l_q rfl rfl rfl (q_extract rfl rfl rfl) ?_
        refine l_q rfl rfl rfl (q_assign rfl rfl) ?_
        refine l_q rfl rfl rfl (q_assign rfl rfl) ?_
        refine l_nil ?_
        refine n_then ?_
        refine t_seq ?_
        refine t_seq ?_
        refine t_qreg ?_
        refine s_q rfl rfl rfl (q_move rfl rfl) ?_
        refine s_q rfl rfl rfl (q_neq_inil rfl (by kernel_rfl) rfl (by assumption)) ?_
        refine s_q rfl rfl rfl (q_move rfl rfl) ?_
        refine s_and2 3 2 34 38 37 _ false rfl rfl rfl rfl rfl rfl (fun h38 => by
            cases h38
          ) (wanted_n rfl) rfl rfl rfl ?_
        refine s_done ?_
        refine n_then ?_
        refine t_cond rfl (fun hc3 => ?_) (fun hc3 => ?_)
        · skip
          cases hc3
        · skip
          refine t_skip ?_
          refine n_then ?_
          refine t_seq ?_
          refine t_seq ?_
          refine t_region ?_
          refine l_q rfl rfl rfl (q_move rfl rfl) ?_
          refine l_q rfl rfl rfl (q_eql rfl rfl rfl) ?_
          refine l_nil ?_
          refine n_then ?_
          refine t_cond rfl (fun hc4 => ?_) (fun hc4 => ?_)
          · skip
            exact absurd hc4 (by decide)
          · skip
            refine t_skip ?_
            refine n_then ?_
            refine t_seq ?_
            refine t_region ?_
            refine l_q rfl rfl rfl (q_move rfl rfl) ?_
            refine l_q rfl rfl rfl (q_sub64 rfl rfl rfl (by omega)) ?_
            refine l_q rfl rfl rfl (q_convU 63 rfl Tryd.underlying3 Tryd.underlying78 rfl rfl (by decide)) ?_
            refine l_q rfl rfl rfl (q_shl63 rfl rfl rfl) ?_
            refine l_q rfl rfl rfl (q_assign rfl rfl) ?_
            refine l_nil ?_
            refine n_then ?_
            refine t_seq ?_
            refine t_seq ?_
            refine t_qreg ?_
            refine s_q rfl rfl rfl (q_move rfl rfl) ?_
            refine s_q rfl rfl rfl (q_not rfl rfl) ?_
            refine s_q rfl rfl rfl (q_move rfl rfl) ?_
            refine s_and2 3 2 48 52 51 _ _ rfl rfl rfl rfl rfl rfl (fun h52 => by
                try simp at h52
                refine s_g rfl rfl rfl rfl rfl rfl (q_move rfl rfl) ?_
                refine s_g rfl rfl rfl rfl rfl rfl (q_move rfl rfl) ?_
                refine s_g rfl rfl rfl rfl rfl rfl (q_geq rfl rfl rfl) ?_
                exact s_val rfl
              ) (wanted_n rfl) rfl rfl rfl ?_
            refine s_done ?_
            refine n_then ?_
            refine t_cond rfl (fun hc5 => ?_) (fun hc5 => ?_)
            · skip
              exfalso
              simp at hc5
              omega
            · skip
              refine t_skip ?_
              refine n_then ?_
              refine t_seq ?_
              refine t_seq ?_
              refine t_qreg ?_
              refine s_q rfl rfl rfl (q_move rfl rfl) ?_
              refine s_q rfl rfl rfl (q_move rfl rfl) ?_
              refine s_and2 3 1 58 62 61 _ false rfl rfl rfl rfl rfl rfl (fun h62 => by
                  cases h62
                ) (wanted_n rfl) rfl rfl rfl ?_
              refine s_done ?_
              refine n_then ?_
              refine t_cond rfl (fun hc6 => ?_) (fun hc6 => ?_)
              · skip
                cases hc6
              · skip
                refine t_skip ?_
                refine n_then ?_
                refine t_seq ?_
                refine t_region ?_
                refine l_q rfl rfl rfl (q_move rfl rfl) ?_
                refine l_q rfl rfl rfl (q_convI (octV s) rfl Tryd.underlying68 Tryd.underlying2 rfl rfl (by omega)) ?_
                refine l_q rfl rfl rfl (q_assign rfl rfl) ?_
                refine l_nil ?_
                refine n_then ?_
                refine t_seq ?_
                refine t_seq ?_
                refine t_region ?_
                refine l_q rfl rfl rfl (q_move rfl rfl) ?_
                refine l_nil ?_
                refine n_then ?_
                refine t_cond rfl (fun hc7 => ?_) (fun hc7 => ?_)
                · skip
                  cases hc7
                · skip
                  refine t_skip ?_
                  refine n_then ?_
                  refine t_seq ?_
                  refine t_region ?_
                  refine l_q rfl rfl rfl (q_move rfl rfl) ?_
                  refine l_q rfl rfl rfl (q_assign rfl rfl) ?_
                  refine l_q rfl rfl rfl (q_assign rfl rfl) ?_
                  refine l_nil ?_
                  refine n_then ?_
                  refine t_ret ?_
                  refine n_ret2 rfl rfl rfl (fun w' hw => ?_)
                  -- leaf 0
                  exact ⟨rfl, hw.below⟩
set_option maxRecDepth 10000 in
theorem pint8_pure (s : List UInt8) (w : World) (hne : s ≠ []) (hl : s.length ≤ 6) (hd : s.all digB = true) : Pure Tryd.prog 28 [str s, .int .i64 8, .int .i64 64] w (.tuple #[.int .i64 (octV s : Int), .nilIface]) := by
  have hnil : ErrIs .nilIface false := .inl ⟨rfl, rfl⟩
  refine enter Tryd.func28 rfl Tryd.ntmps28 rfl (St.start w (look w) (Le.refl _)) ?_
  refine t_seq ?_
  refine t_region ?_
  refine l_q rfl rfl rfl (q_assign rfl rfl) ?_
  refine l_q rfl rfl rfl (q_assign rfl rfl) ?_
  refine l_nil ?_
  refine n_then ?_
  refine t_seq ?_
  refine t_region ?_
  refine l_q rfl rfl rfl (q_move rfl rfl) ?_
  refine l_q rfl rfl rfl (q_move rfl rfl) ?_
  refine l_q rfl rfl rfl (q_move rfl rfl) ?_
  refine l_q rfl rfl rfl (quiet_call rfl rfl rfl Tryd.func46 (by kernel_rfl) rfl ((fun w _ => pint8i_pure s w hne hl hd))) ?_
  refine l_q rfl rfl rfl (q_move rfl rfl) ?_
  refine l_q rfl rfl rfl (q_extract rfl rfl rfl) ?_
  refine l_q rfl rfl rfl (q_extract rfl rfl rfl) ?_
  refine l_q rfl rfl rfl (q_assign rfl rfl) ?_
  refine l_q rfl rfl rfl (q_assign rfl rfl) ?_
  refine l_nil ?_
  refine n_then ?_
  refine t_seq ?_
  refine t_seq ?_
  refine t_region ?_
  refine l_q rfl rfl rfl (q_move rfl rfl) ?_
  refine l_q rfl rfl rfl (q_neq_inil rfl (by kernel_rfl) rfl (by assumption)) ?_
  refine l_nil ?_
  refine n_then ?_
  refine t_cond rfl (fun hc0 => ?_) (fun hc0 => ?_)
  · skip
    cases hc0
  · skip
    refine t_skip ?_
    refine n_then ?_
    refine t_seq ?_
    refine t_region ?_
    refine l_q rfl rfl rfl (q_move rfl rfl) ?_
    refine l_q rfl rfl rfl (q_assign rfl rfl) ?_
    refine l_q rfl rfl rfl (q_assign rfl rfl) ?_
    refine l_nil ?_
    refine n_then ?_
    refine t_ret ?_
    refine n_ret2 rfl rfl rfl (fun w' hw => ?_)
    -- leaf 0
    exact ⟨rfl, hw.below⟩
end Go.Tri
