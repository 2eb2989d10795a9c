/-
  Members of a bracket: what one holds.
-/
import Derived.Test.YtlhjbemcapnmjaaPA1
namespace Go.Tri
open Go.Proofs Go.RowKit
set_option maxRecDepth 10000 in
theorem holds_pure (m : Mem) (c : UInt8) (w : World) : Pure Try.prog 35 [.agg (memC m).toArray, u8 c] w (.bool (holdsM m c)) := by
  refine enter Try.func35 rfl Try.ntmps35 rfl (St.start w (look w) (Le.refl _)) ?_
  refine t_seq ?_
  refine t_region ?_
  refine l_e rfl rfl rfl (e_box rfl rfl rfl) ?_
  rintro _ _ _ ⟨b2, rfl, rfl, rfl⟩
  refine l_q rfl rfl rfl (q_assign rfl rfl) ?_
  refine l_nil ?_
  refine n_then ?_
  refine t_seq ?_
  refine t_qreg ?_
  refine s_q rfl rfl rfl (q_move rfl rfl) ?_
  refine s_q rfl rfl rfl (q_leq rfl rfl rfl) ?_
  refine s_q rfl rfl rfl (q_move rfl rfl) ?_
  refine s_and2 2 2 10 13 12 _ _ rfl rfl rfl rfl rfl rfl (fun h13 => by
      try simp at h13
      refine s_g rfl rfl rfl rfl rfl rfl (q_move rfl rfl) ?_
      refine s_g rfl rfl rfl rfl rfl rfl (q_leq rfl rfl rfl) ?_
      exact s_val rfl
    ) (wanted_n rfl) rfl rfl rfl ?_
  refine s_q rfl rfl rfl (q_move rfl rfl) ?_
  refine s_q rfl rfl rfl (q_leq rfl rfl rfl) ?_
  refine s_q rfl rfl rfl (q_move rfl rfl) ?_
  refine s_and2 2 8 16 19 18 _ _ rfl rfl rfl rfl rfl rfl (fun h19 => by
      try simp at h19
      refine s_g rfl rfl rfl rfl rfl rfl (q_move rfl rfl) ?_
      refine s_g rfl rfl rfl rfl rfl rfl (q_leq rfl rfl rfl) ?_
      exact s_val rfl
    ) (wanted_n rfl) rfl rfl rfl ?_
  refine s_q rfl rfl rfl (q_move rfl rfl) ?_
  refine s_q rfl rfl rfl (q_leq rfl rfl rfl) ?_
  refine s_q rfl rfl rfl (q_move rfl rfl) ?_
  refine s_and2 2 14 22 25 24 _ _ rfl rfl rfl rfl rfl rfl (fun h25 => by
      try simp at h25
      refine s_g rfl rfl rfl rfl rfl rfl (q_move rfl rfl) ?_
      refine s_g rfl rfl rfl rfl rfl rfl (q_leq rfl rfl rfl) ?_
      exact s_val rfl
    ) (wanted_n rfl) rfl rfl rfl ?_
  refine s_q rfl rfl rfl (q_assign rfl rfl) ?_
  refine s_q rfl rfl rfl (q_assign rfl rfl) ?_
  refine s_q rfl rfl rfl (q_assign rfl rfl) ?_
  refine s_done ?_
  refine n_then ?_
  refine t_seq ?_
  refine t_seq ?_
  refine t_region ?_
  refine l_q rfl rfl rfl (q_fieldAddr rfl Try.underlying56 rfl rfl ti9 rfl rfl) ?_
  refine l_q rfl rfl rfl (q_load_row rfl Try.underlying9 rfl rfl (by rfl)) ?_
  refine l_nil ?_
  refine n_then ?_
  refine t_block ?_
  refine t_seq ?_
  refine t_region ?_
  refine l_q rfl rfl rfl (q_eql_str rfl rfl rfl) ?_
  refine l_q rfl rfl rfl (q_assign rfl rfl) ?_
  refine l_nil ?_
  refine n_then ?_
  refine t_cond rfl (fun hc0 => ?_) (fun hc0 => ?_)
  · skip
    simp only [decide_eq_true_eq, decide_eq_false_iff_not] at hc0
    refine t_seq ?_
    refine t_qreg ?_
    refine s_q rfl rfl rfl (q_move rfl rfl) ?_
    refine s_q rfl rfl rfl (q_move rfl rfl) ?_
    refine s_or2 1 1 31 33 32 _ _ rfl rfl rfl rfl rfl rfl (fun h33 => by
        try simp at h33
        refine s_g rfl rfl rfl rfl rfl rfl (q_move rfl rfl) ?_
        exact s_val rfl
      ) (wanted_n rfl) rfl rfl rfl ?_
    refine s_q rfl rfl rfl (q_assign rfl rfl) ?_
    refine s_done ?_
    refine n_then ?_
    refine t_ret ?_
    refine n_ret_block ?_
    refine n_ret_then ?_
    refine n_ret1 rfl rfl (fun w' hw => ?_)
    -- leaf 0
    refine ⟨?_, hw.below⟩
    simp [holdsM, classB, clsNames, upperB, lowerB, digitB, spaceB, *] <;> exact Bool.or_comm _ _
  · skip
    simp only [decide_eq_true_eq, decide_eq_false_iff_not] at hc0
    refine t_seq ?_
    refine t_region ?_
    refine l_q rfl rfl rfl (q_eql_str rfl rfl rfl) ?_
    refine l_q rfl rfl rfl (q_assign rfl rfl) ?_
    refine l_nil ?_
    refine n_then ?_
    refine t_cond rfl (fun hc1 => ?_) (fun hc1 => ?_)
    · skip
      simp only [decide_eq_true_eq, decide_eq_false_iff_not] at hc1
      refine t_seq ?_
      refine t_region ?_
      refine l_q rfl rfl rfl (q_move rfl rfl) ?_
      refine l_q rfl rfl rfl (q_assign rfl rfl) ?_
      refine l_nil ?_
      refine n_then ?_
      refine t_ret ?_
      refine n_ret_block ?_
      refine n_ret_then ?_
      refine n_ret1 rfl rfl (fun w' hw => ?_)
      -- leaf 1
      refine ⟨?_, hw.below⟩
      simp [holdsM, classB, clsNames, upperB, lowerB, digitB, spaceB, *] <;> exact Bool.or_comm _ _
    · skip
      simp only [decide_eq_true_eq, decide_eq_false_iff_not] at hc1
      refine t_seq ?_
      refine t_region ?_
      refine l_q rfl rfl rfl (q_eql_str rfl rfl rfl) ?_
      refine l_q rfl rfl rfl (q_assign rfl rfl) ?_
      refine l_nil ?_
      refine n_then ?_
      refine t_cond rfl (fun hc2 => ?_) (fun hc2 => ?_)
      · skip
        simp only [decide_eq_true_eq, decide_eq_false_iff_not] at hc2
        refine t_seq ?_
        refine t_qreg ?_
        refine s_q rfl rfl rfl (q_move rfl rfl) ?_
        refine s_q rfl rfl rfl (q_move rfl rfl) ?_
        refine s_or2 1 1 40 42 41 _ _ rfl rfl rfl rfl rfl rfl (fun h42 => by
            try simp at h42
            refine s_g rfl rfl rfl rfl rfl rfl (q_move rfl rfl) ?_
            exact s_val rfl
          ) (wanted_n rfl) rfl rfl rfl ?_
        refine s_q rfl rfl rfl (q_move rfl rfl) ?_
        refine s_or2 1 4 43 45 44 _ _ rfl rfl rfl rfl rfl rfl (fun h45 => by
            try simp at h45
            refine s_g rfl rfl rfl rfl rfl rfl (q_move rfl rfl) ?_
            exact s_val rfl
          ) (wanted_n rfl) rfl rfl rfl ?_
        refine s_q rfl rfl rfl (q_assign rfl rfl) ?_
        refine s_done ?_
        refine n_then ?_
        refine t_ret ?_
        refine n_ret_block ?_
        refine n_ret_then ?_
        refine n_ret1 rfl rfl (fun w' hw => ?_)
        -- leaf 2
        refine ⟨?_, hw.below⟩
        simp [holdsM, classB, clsNames, upperB, lowerB, digitB, spaceB, *] <;> exact Bool.or_comm _ _
      · skip
        simp only [decide_eq_true_eq, decide_eq_false_iff_not] at hc2
        refine t_seq ?_
        refine t_region ?_
        refine l_q rfl rfl rfl (q_eql_str rfl rfl rfl) ?_
        refine l_q rfl rfl rfl (q_assign rfl rfl) ?_
        refine l_nil ?_
        refine n_then ?_
        refine t_cond rfl (fun hc3 => ?_) (fun hc3 => ?_)
        · skip
          simp only [decide_eq_true_eq, decide_eq_false_iff_not] at hc3
          refine t_seq ?_
          refine t_region ?_
          refine l_q rfl rfl rfl (q_move rfl rfl) ?_
          refine l_q rfl rfl rfl (q_assign rfl rfl) ?_
          refine l_nil ?_
          refine n_then ?_
          refine t_ret ?_
          refine n_ret_block ?_
          refine n_ret_then ?_
          refine n_ret1 rfl rfl (fun w' hw => ?_)
          -- leaf 3
          refine ⟨?_, hw.below⟩
          simp [holdsM, classB, clsNames, upperB, lowerB, digitB, spaceB, *] <;> exact Bool.or_comm _ _
        · skip
          simp only [decide_eq_true_eq, decide_eq_false_iff_not] at hc3
          refine t_seq ?_
          refine t_region ?_
          refine l_q rfl rfl rfl (q_eql_str rfl rfl rfl) ?_
          refine l_q rfl rfl rfl (q_assign rfl rfl) ?_
          refine l_nil ?_
          refine n_then ?_
          refine t_cond rfl (fun hc4 => ?_) (fun hc4 => ?_)
          · skip
            simp only [decide_eq_true_eq, decide_eq_false_iff_not] at hc4
            refine t_seq ?_
            refine t_region ?_
            refine l_q rfl rfl rfl (q_move rfl rfl) ?_
            refine l_q rfl rfl rfl (q_assign rfl rfl) ?_
            refine l_nil ?_
            refine n_then ?_
            refine t_ret ?_
            refine n_ret_block ?_
            refine n_ret_then ?_
            refine n_ret1 rfl rfl (fun w' hw => ?_)
            -- leaf 4
            refine ⟨?_, hw.below⟩
            simp [holdsM, classB, clsNames, upperB, lowerB, digitB, spaceB, *] <;> exact Bool.or_comm _ _
          · skip
            simp only [decide_eq_true_eq, decide_eq_false_iff_not] at hc4
            refine t_seq ?_
            refine t_region ?_
            refine l_q rfl rfl rfl (q_eql_str rfl rfl rfl) ?_
            refine l_q rfl rfl rfl (q_assign rfl rfl) ?_
            refine l_nil ?_
            refine n_then ?_
            refine t_cond rfl (fun hc5 => ?_) (fun hc5 => ?_)
            · skip
              simp only [decide_eq_true_eq, decide_eq_false_iff_not] at hc5
              refine t_seq ?_
              refine t_qreg ?_
              refine s_q rfl rfl rfl (q_move rfl rfl) ?_
              refine s_q rfl rfl rfl (q_eql_u8c rfl rfl rfl rfl) ?_
              refine s_q rfl rfl rfl (q_move rfl rfl) ?_
              refine s_or2 6 2 56 63 62 _ _ rfl rfl rfl rfl rfl rfl (fun h63 => by
                  try simp at h63
                  refine s_g rfl rfl rfl rfl rfl rfl (q_move rfl rfl) ?_
                  refine s_g rfl rfl rfl rfl rfl rfl (q_leq rfl rfl rfl) ?_
                  refine s_g rfl rfl rfl rfl rfl rfl (q_move rfl rfl) ?_
                  refine s_and2 2 5 59 62 61 _ _ rfl rfl rfl rfl rfl rfl (fun h62 => by
                      try simp at h62
                      refine s_g rfl rfl rfl rfl rfl rfl (q_move rfl rfl) ?_
                      refine s_g rfl rfl rfl rfl rfl rfl (q_leq rfl rfl rfl) ?_
                      exact s_val rfl
                    ) (wanted_g rfl rfl rfl rfl) rfl rfl rfl ?_
                  exact s_val rfl
                ) (wanted_n rfl) rfl rfl rfl ?_
              refine s_q rfl rfl rfl (q_assign rfl rfl) ?_
              refine s_done ?_
              refine n_then ?_
              refine t_ret ?_
              refine n_ret_block ?_
              refine n_ret_then ?_
              refine n_ret1 rfl rfl (fun w' hw => ?_)
              -- leaf 5
              refine ⟨?_, hw.below⟩
              simp [holdsM, classB, clsNames, upperB, lowerB, digitB, spaceB, *] <;> exact Bool.or_comm _ _
            · skip
              simp only [decide_eq_true_eq, decide_eq_false_iff_not] at hc5
              refine t_skip ?_
              refine n_block ?_
              refine n_then ?_
              refine t_seq ?_
              refine t_qreg ?_
              refine s_q rfl rfl rfl (q_fieldAddr rfl Try.underlying56 rfl rfl ti5 rfl rfl) ?_
              refine s_q rfl rfl rfl (q_load_row rfl Try.underlying5 rfl rfl (by rfl)) ?_
              refine s_q rfl rfl rfl (q_move rfl rfl) ?_
              refine s_q rfl rfl rfl (q_leq rfl rfl rfl) ?_
              refine s_q rfl rfl rfl (q_move rfl rfl) ?_
              refine s_and2 4 4 68 73 72 _ _ rfl rfl rfl rfl rfl rfl (fun h73 => by
                  try simp at h73
                  refine s_g rfl rfl rfl rfl rfl rfl (q_move rfl rfl) ?_
                  refine s_g rfl rfl rfl rfl rfl rfl (q_fieldAddr rfl Try.underlying56 rfl rfl ti5 rfl rfl) ?_
                  refine s_g rfl rfl rfl rfl rfl rfl (q_load_row rfl Try.underlying5 rfl rfl (by rfl)) ?_
                  refine s_g rfl rfl rfl rfl rfl rfl (q_leq rfl rfl rfl) ?_
                  exact s_val rfl
                ) (wanted_n rfl) rfl rfl rfl ?_
              refine s_q rfl rfl rfl (q_assign rfl rfl) ?_
              refine s_done ?_
              refine n_then ?_
              refine t_ret ?_
              refine n_ret1 rfl rfl (fun w' hw => ?_)
              -- leaf 6
              refine ⟨?_, hw.below⟩
              simp [holdsM, classB, clsNames, upperB, lowerB, digitB, spaceB, *] <;> exact Bool.or_comm _ _
set_option maxRecDepth 10000 in
theorem members_calls (vp : Value) (I : Look) (F : List HA) (w0 w : World) (hvp : One vp) (hw0 : St w0 I F w) : Calls Try.prog 34 [vp].toArray w (fun e w' => ∃ v, e = .returned v ∧ ∃ I' H', (Le I I' ∧ F = H' ∧ ∃ b, v = .func (.func 37) #[] #[.pointer (some ⟨b, 0, none⟩)] ∧ CellI I' b 0 vp) ∧ St w I' H' w') := by
  refine enter Try.func34 rfl Try.ntmps34 rfl (hw0.self) ?_
  refine t_seq ?_
  refine t_region ?_
  refine l_e rfl rfl rfl (e_box rfl rfl (by first | exact One.cells (by assumption) | exact One.cells hvp | rfl)) ?_
  rintro _ _ _ ⟨b1, rfl, rfl, rfl⟩
  refine l_q rfl rfl rfl (q_assign rfl rfl) ?_
  refine l_nil ?_
  refine n_then ?_
  refine t_seq ?_
  refine t_freezeRow b1 (fun J hJ h1 => ?_)
  refine t_region ?_
  refine l_q rfl rfl rfl (q_makeFunc rfl rfl rfl) ?_
  refine l_q rfl rfl rfl (q_assign rfl rfl) ?_
  refine l_nil ?_
  refine n_then ?_
  refine t_ret ?_
  refine n_ret1 rfl rfl (fun w' hw => ?_)
  -- leaf 0
  exact ⟨_, rfl, J, _, ⟨hJ, rfl, b1, rfl, h1 0 _ rfl⟩, hw⟩
end Go.Tri
