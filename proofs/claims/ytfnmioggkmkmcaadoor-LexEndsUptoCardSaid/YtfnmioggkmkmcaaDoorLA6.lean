/-
  Runes sought in a text.
-/
import Derived.Test.YtfnmioggkmkmcaaDoorLA5
import Derived.Test.YtfnmioggkmkmcaaDoorPAny
namespace Go.Tri
open Go.Proofs Go.RowKit
set_option maxRecDepth 10000 in
theorem validRune_pure (r : Int) (w : World) : Pure Tryd.prog 62 [.int .i32 r] w (.bool ((decide (0 ≤ r) && decide (r < 55296)) || (decide (57343 < r) && decide (r ≤ 1114111)))) := by
  refine enter Tryd.func62 rfl Tryd.ntmps62 rfl (St.start w (look w) (Le.refl _)) ?_
  refine t_seq ?_
  refine t_region ?_
  refine l_q rfl rfl rfl (q_assign rfl rfl) ?_
  refine l_nil ?_
  refine n_then ?_
  refine t_seq ?_
  refine t_block ?_
  refine t_seq ?_
  refine t_qreg ?_
  refine s_q rfl rfl rfl (q_move rfl rfl) ?_
  refine s_q rfl rfl rfl (q_leq rfl rfl rfl) ?_
  refine s_q rfl rfl rfl (q_move rfl rfl) ?_
  refine s_and2 2 2 6 9 8 _ _ rfl rfl rfl rfl rfl rfl (fun h9 => by
      try simp at h9
      refine s_g rfl rfl rfl rfl rfl rfl (q_move rfl rfl) ?_
      refine s_g rfl rfl rfl rfl rfl rfl (q_lss rfl rfl rfl) ?_
      exact s_val rfl
    ) (wanted_n rfl) rfl rfl rfl ?_
  refine s_q rfl rfl rfl (q_assign rfl rfl) ?_
  refine s_done ?_
  refine n_then ?_
  refine t_cond rfl (fun hc0 => ?_) (fun hc0 => ?_)
  · skip
    refine t_seq ?_
    refine t_region ?_
    refine l_q rfl rfl rfl (q_assign rfl rfl) ?_
    refine l_nil ?_
    refine n_then ?_
    refine t_ret ?_
    refine n_ret_block ?_
    refine n_ret_then ?_
    refine n_ret1 rfl rfl (fun w' hw => ?_)
    -- leaf 0
    refine ⟨?_, hw.below⟩
    rw [show (decide (0 ≤ r) && decide (r < 55296)) = true from hc0]; rfl
  · skip
    refine t_seq ?_
    refine t_qreg ?_
    refine s_q rfl rfl rfl (q_move rfl rfl) ?_
    refine s_q rfl rfl rfl (q_lss rfl rfl rfl) ?_
    refine s_q rfl rfl rfl (q_move rfl rfl) ?_
    refine s_and2 2 2 13 16 15 _ _ rfl rfl rfl rfl rfl rfl (fun h16 => by
        try simp at h16
        refine s_g rfl rfl rfl rfl rfl rfl (q_move rfl rfl) ?_
        refine s_g rfl rfl rfl rfl rfl rfl (q_leq rfl rfl rfl) ?_
        exact s_val rfl
      ) (wanted_n rfl) rfl rfl rfl ?_
    refine s_q rfl rfl rfl (q_assign rfl rfl) ?_
    refine s_done ?_
    refine n_then ?_
    refine t_cond rfl (fun hc1 => ?_) (fun hc1 => ?_)
    · skip
      refine t_seq ?_
      refine t_region ?_
      refine l_q rfl rfl rfl (q_assign rfl rfl) ?_
      refine l_nil ?_
      refine n_then ?_
      refine t_ret ?_
      refine n_ret_block ?_
      refine n_ret_then ?_
      refine n_ret1 rfl rfl (fun w' hw => ?_)
      -- leaf 1
      refine ⟨?_, hw.below⟩
      rw [show (decide (57343 < r) && decide (r ≤ 1114111)) = true from hc1, Bool.or_true]
    · skip
      refine t_skip ?_
      refine n_block ?_
      refine n_then ?_
      refine t_seq ?_
      refine t_region ?_
      refine l_q rfl rfl rfl (q_assign rfl rfl) ?_
      refine l_nil ?_
      refine n_then ?_
      refine t_ret ?_
      refine n_ret1 rfl rfl (fun w' hw => ?_)
      -- leaf 2
      refine ⟨?_, hw.below⟩
      rw [show (decide (0 ≤ r) && decide (r < 55296)) = false from hc0, show (decide (57343 < r) && decide (r ≤ 1114111)) = false from hc1]; rfl
set_option maxRecDepth 10000 in
theorem indexRune_pure (s : List UInt8) (r : Nat) (w : World) (hs : s.length ≤ 1000000000) (ha : Ascii s) : Pure Tryd.prog 48 [str s, .int .i32 (r : Int)] w (.int .i64 (if r < 128 then Lib.indexByte s (UInt8.ofNat r) else -1)) := by
  refine enter Tryd.func48 rfl Tryd.ntmps48 rfl (St.start w (look w) (Le.refl _)) ?_
  refine t_seq ?_
  refine t_region ?_
  refine l_q rfl rfl rfl (q_assign rfl rfl) ?_
  refine l_nil ?_
  refine n_then ?_
  refine t_block ?_
  refine t_seq ?_
  refine t_qreg ?_
  refine s_q rfl rfl rfl (q_move rfl rfl) ?_
  refine s_q rfl rfl rfl (q_leq rfl rfl rfl) ?_
  refine s_q rfl rfl rfl (q_move rfl rfl) ?_
  refine s_and2 2 2 163 166 165 _ _ rfl rfl rfl rfl rfl rfl (fun h166 => by
      try simp at h166
      refine s_g rfl rfl rfl rfl rfl rfl (q_move rfl rfl) ?_
      refine s_g rfl rfl rfl rfl rfl rfl (q_lss rfl rfl rfl) ?_
      exact s_val rfl
    ) (wanted_n rfl) rfl rfl rfl ?_
  refine s_q rfl rfl rfl (q_assign rfl rfl) ?_
  refine s_done ?_
  refine n_then ?_
  refine t_cond rfl (fun hc0 => ?_) (fun hc0 => ?_)
  · skip
    have hr : r < 128 := by have h0 : (decide ((0 : Int) ≤ (r : Int)) && decide ((r : Int) < 128)) = true := hc0; simp only [Bool.and_eq_true, decide_eq_true_eq] at h0; omega
    refine t_seq ?_
    refine t_region ?_
    refine l_q rfl rfl rfl (q_move rfl rfl) ?_
    refine l_q rfl rfl rfl (q_move rfl rfl) ?_
    refine l_q rfl rfl rfl (q_conv_u8 r rfl Tryd.underlying21 Tryd.underlying5 rfl rfl) ?_
    refine l_q rfl rfl rfl (quiet_call rfl rfl rfl Tryd.func21 (by kernel_rfl) rfl ((fun w _ => indexByte_pure s (UInt8.ofNat r) w))) ?_
    refine l_q rfl rfl rfl (q_assign rfl rfl) ?_
    refine l_nil ?_
    refine n_then ?_
    refine t_ret ?_
    refine n_ret_block ?_
    refine n_ret1 rfl rfl (fun w' hw => ?_)
    -- leaf 0
    refine ⟨?_, hw.below⟩
    rw [if_pos hr]
  · skip
    have hr : ¬ r < 128 := by have h0 : (decide ((0 : Int) ≤ (r : Int)) && decide ((r : Int) < 128)) = false := hc0; simp only [Bool.and_eq_false_iff, decide_eq_false_iff_not] at h0; omega
    refine t_seq ?_
    refine t_region ?_
    refine l_q rfl rfl rfl (q_move rfl rfl) ?_
    refine l_q rfl rfl rfl (q_eql rfl rfl rfl) ?_
    refine l_q rfl rfl rfl (q_assign rfl rfl) ?_
    refine l_nil ?_
    refine n_then ?_
    refine t_cond rfl (fun hc1 => ?_) (fun hc1 => ?_)
    · skip
      refine t_seq ?_
      refine t_seq ?_
      refine t_region ?_
      refine l_q rfl rfl rfl (q_move rfl rfl) ?_
      refine l_e rfl rfl rfl (e_rangeStr rfl Tryd.underlying9 rfl) ?_
      rintro _ _ _ ⟨b175, rfl, rfl, rfl⟩
      refine l_nil ?_
      refine n_then ?_
      refine t_block ?_
      refine t_loopE (ι := Nat) (fun zz => zz ≤ s.length) (fun zz => s.length - zz) (fun zz => []) [(0, _), (1, _), (160, _), (171, _), (175, _)] (fun zz => look w) (fun zz => [obj b175 (.stringIter ⟨s.toArray⟩ zz)]) 0 ?_ (sub_nil) (sub_cons rfl (sub_cons rfl (sub_cons rfl (sub_cons rfl (sub_cons rfl sub_nil))))) (fun _ h => subC_st h) ?_
      · try dsimp only
        exact Nat.zero_le _
      rintro p hp
      try dsimp only at *
      refine t_seq ?_
      refine t_region ?_
      refine l_e rfl rfl rfl (e_nextStr rfl rfl) ?_
      rintro _ _ _ ⟨vs176, rfl, hz176, hn176, rfl, rfl⟩
      refine l_q rfl rfl rfl (q_extract rfl rfl hz176) ?_
      refine l_nil ?_
      refine n_then ?_
      refine t_seq ?_
      refine t_cond rfl (fun hc2 => ?_) (fun hc2 => ?_)
      · skip
        try simp at hc2
        have hlt : p < s.length := by simpa using hc2
        have hlow : (nth s p 0).toNat < 128 := ha _ (nth_mem hlt)
        have hrun := (dec_span s p hlt).1 hlow
        replace hrun : (runeAt s p).1 = (nth s p 0).toNat ∧ (runeAt s p).2 = 1 := by rw [hrun]; exact ⟨rfl, rfl⟩
        refine t_skip ?_
        refine n_then ?_
        refine t_block ?_
        refine t_seq ?_
        refine t_region ?_
        refine l_q rfl rfl rfl (q_extract rfl rfl (hn176 (by omega)).1) ?_
        refine l_q rfl rfl rfl (q_extract rfl rfl (hn176 (by omega)).2) ?_
        refine l_q rfl rfl rfl (q_assign rfl rfl) ?_
        refine l_q rfl rfl rfl (q_assign rfl rfl) ?_
        refine l_nil ?_
        refine n_then ?_
        refine t_seq ?_
        refine t_region ?_
        refine l_q rfl rfl rfl (q_move rfl rfl) ?_
        refine l_q rfl rfl rfl (q_eql rfl rfl rfl) ?_
        refine l_nil ?_
        refine n_then ?_
        refine t_cond rfl (fun hc3 => ?_) (fun hc3 => ?_)
        · skip
          exfalso
          have h3 := of_decide_eq_true hc3
          rw [hrun.1] at h3
          omega
        · skip
          refine t_skip ?_
          refine n_block ?_
          refine n_roundE (nextPos s p) ?_ ?_ (sub_nil) (sub_cons rfl (sub_cons rfl (sub_cons rfl (sub_cons rfl (sub_cons rfl sub_nil))))) (fun _ h => by try dsimp only; exact subC_st h)
          · try dsimp only
            rw [nextPos, if_pos hlt, hrun.2]; exact hlt
          · try dsimp only
            rw [nextPos, if_pos hlt, hrun.2]; omega
      · skip
        try simp at hc2
        refine t_exit ?_
        refine n_exit_then ?_
        refine n_exit_then ?_
        refine n_exit_block ?_
        refine n_then ?_
        refine t_seq ?_
        refine t_region ?_
        refine l_q rfl rfl rfl (q_assign rfl rfl) ?_
        refine l_nil ?_
        refine n_then ?_
        refine t_ret ?_
        refine n_ret_block ?_
        refine n_ret1 rfl rfl (fun w' hw => ?_)
        -- leaf 1
        refine ⟨?_, hw.below⟩
        rw [if_neg hr]
    · skip
      refine t_seq ?_
      refine t_region ?_
      refine l_q rfl rfl rfl (q_move rfl rfl) ?_
      refine l_q rfl rfl rfl (quiet_call rfl rfl rfl Tryd.func62 (by kernel_rfl) rfl ((fun w _ => validRune_pure _ w))) ?_
      refine l_q rfl rfl rfl (q_not rfl rfl) ?_
      refine l_q rfl rfl rfl (q_assign rfl rfl) ?_
      refine l_nil ?_
      refine n_then ?_
      refine t_cond rfl (fun hc4 => ?_) (fun hc4 => ?_)
      · skip
        refine t_seq ?_
        refine t_region ?_
        refine l_q rfl rfl rfl (q_assign rfl rfl) ?_
        refine l_nil ?_
        refine n_then ?_
        refine t_ret ?_
        refine n_ret_block ?_
        refine n_ret1 rfl rfl (fun w' hw => ?_)
        -- leaf 2
        refine ⟨?_, hw.below⟩
        rw [if_neg hr]
      · skip
        refine t_scope rfl ?_
        refine t_seq ?_
        refine t_region ?_
        refine l_q rfl rfl rfl (q_move rfl rfl) ?_
        refine l_q rfl rfl rfl (q_rune_str rfl Tryd.underlying21 Tryd.underlying9 rfl) ?_
        obtain ⟨e, he⟩ : ∃ e, e = (Utf8.encode (r : Int)).data.toList := ⟨_, rfl⟩
        have henc := enc_high (r : Int) (by omega)
        rw [← he] at henc ⊢
        refine l_q rfl rfl rfl (q_assign rfl rfl) ?_
        refine l_nil ?_
        refine n_then ?_
        refine t_seq ?_
        refine t_region ?_
        refine l_q rfl rfl rfl (q_move rfl rfl) ?_
        refine l_q rfl rfl rfl (q_len_str rfl Tryd.underlying9 rfl) ?_
        refine l_q rfl rfl rfl (q_sub64 rfl rfl rfl (by omega)) ?_
        refine l_q rfl rfl rfl (q_assign rfl rfl) ?_
        refine l_nil ?_
        refine n_then ?_
        refine t_seq ?_
        refine t_region ?_
        refine l_q rfl rfl rfl (q_move rfl rfl) ?_
        refine l_q rfl rfl rfl (q_assign rfl rfl) ?_
        refine l_nil ?_
        refine n_then ?_
        refine t_seq ?_
        refine t_region ?_
        refine l_q rfl rfl rfl (q_assign rfl rfl) ?_
        refine l_nil ?_
        refine n_then ?_
        refine t_seq ?_
        refine t_block ?_
        refine t_loopE (ι := Nat) (fun zz => 1 ≤ zz) (fun zz => 0) (fun zz => [(9, .int .i64 (zz : Int))]) [(0, _), (1, _), (160, _), (171, _), (183, _), (7, _), (8, _)] (fun zz => look w) (fun zz => []) (e.length - 1) ?_ (sub_cons' rfl (congrArg (Value.int IntKind.i64) (by omega)) (sub_nil)) (sub_cons rfl (sub_cons rfl (sub_cons rfl (sub_cons rfl (sub_cons rfl (sub_cons rfl (sub_cons rfl sub_nil))))))) (fun _ h => subC_st h) ?_
        · try dsimp only
          omega
        rintro i hi1
        try dsimp only at *
        refine t_seq ?_
        refine t_seq ?_
        refine t_region ?_
        refine l_q rfl rfl rfl (q_move rfl rfl) ?_
        refine l_q rfl rfl rfl (q_move rfl rfl) ?_
        refine l_q rfl rfl rfl (q_len_str rfl Tryd.underlying9 rfl) ?_
        refine l_q rfl rfl rfl (q_lss rfl rfl rfl) ?_
        refine l_nil ?_
        refine n_then ?_
        refine t_cond rfl (fun hc5 => ?_) (fun hc5 => ?_)
        · skip
          try simp at hc5
          refine t_skip ?_
          refine n_then ?_
          refine t_block ?_
          refine t_scope rfl ?_
          refine t_seq ?_
          refine t_seq ?_
          refine t_qdraw mo (by kernel_rfl) (fun _ _ _ _ _ h => h) ?_
          refine s_q rfl rfl rfl (q_move rfl rfl) ?_
          refine s_q rfl rfl rfl (q_move rfl rfl) ?_
          refine s_q rfl rfl rfl ((by first | exact q_index_strN rfl Tryd.underlying9 rfl rfl (by omega) | exact q_index_str rfl Tryd.underlying9 rfl rfl (by omega))) ?_
          refine s_q rfl rfl rfl (q_move rfl rfl) ?_
          refine s_q rfl rfl rfl (q_move rfl rfl) ?_
          refine s_q rfl rfl rfl ((by first | exact q_index_strN rfl Tryd.underlying9 rfl rfl (by omega) | exact q_index_str rfl Tryd.underlying9 rfl rfl (by omega))) ?_
          refine s_q rfl rfl rfl (q_neq_u8 rfl rfl rfl) ?_
          refine s_done ?_
          refine n_then ?_
          refine t_cond rfl (fun hc6 => ?_) (fun hc6 => ?_)
          · skip
            refine t_seq ?_
            refine t_qdraw mo (by kernel_rfl) (fun _ _ _ _ _ h => h) ?_
            refine s_q rfl rfl rfl (q_move rfl rfl) ?_
            refine s_q rfl rfl rfl (q_move rfl rfl) ?_
            refine s_q rfl rfl rfl (q_add64 rfl rfl rfl (by omega)) ?_
            refine s_q rfl rfl rfl (q_slice_str_from rfl Tryd.underlying9 rfl rfl (by omega)) ?_
            refine s_q rfl rfl rfl (q_move rfl rfl) ?_
            refine s_q rfl rfl rfl (q_move rfl rfl) ?_
            refine s_q rfl rfl rfl ((by first | exact q_index_strN rfl Tryd.underlying9 rfl rfl (by omega) | exact q_index_str rfl Tryd.underlying9 rfl rfl (by omega))) ?_
            refine s_q rfl rfl rfl (quiet_call rfl rfl rfl Tryd.func21 (by kernel_rfl) rfl ((fun w _ => indexByte_pure (s.drop (i + 1)) (nth e (((e.length : Int) - 1)).toNat 0) w))) ?_
            refine s_q rfl rfl rfl (q_assign rfl rfl) ?_
            refine s_done ?_
            refine n_then ?_
            refine t_seq ?_
            refine t_seq ?_
            refine t_region ?_
            refine l_q rfl rfl rfl (q_move rfl rfl) ?_
            refine l_q rfl rfl rfl (q_lss rfl rfl rfl) ?_
            refine l_nil ?_
            refine n_then ?_
            refine t_cond rfl (fun hc7 => ?_) (fun hc7 => ?_)
            · skip
              refine t_seq ?_
              refine t_region ?_
              refine l_q rfl rfl rfl (q_assign rfl rfl) ?_
              refine l_nil ?_
              refine n_then ?_
              refine t_ret ?_
              refine n_ret_then ?_
              refine n_ret_then ?_
              refine n_ret_scope ?_
              refine n_ret_block ?_
              refine n_ret_then ?_
              refine n_ret_block ?_
              refine n_ret_then ?_
              refine n_ret_scope ?_
              refine n_ret_block ?_
              refine n_ret1 rfl rfl (fun w' hw => ?_)
              -- leaf 3
              refine ⟨?_, hw.below⟩
              rw [if_neg hr]
            · skip
              exfalso
              have h8 := henc.2.2 _ (nth_mem (l := e) (i := (((e.length : Int) - 1)).toNat) (d := 0) (by omega))
              have h9 := idx_neg (ascii_not (ascii_drop ha (i + 1)) h8)
              exact of_decide_eq_false hc7 h9
          · skip
            exfalso
            have h6 : decide (nth s i 0 ≠ nth e (((e.length : Int) - 1)).toNat 0) = false := hc6
            rw [decide_eq_false_iff_not, Classical.not_not] at h6
            have h7 := ha _ (nth_mem (l := s) (i := i) (d := 0) (by omega))
            have h8 := henc.2.2 _ (nth_mem (l := e) (i := (((e.length : Int) - 1)).toNat) (d := 0) (by omega))
            rw [h6] at h7
            omega
        · skip
          try simp at hc5
          refine t_exit ?_
          refine n_exit_then ?_
          refine n_exit_then ?_
          refine n_exit_block ?_
          refine n_then ?_
          refine t_seq ?_
          refine t_seq ?_
          refine t_region ?_
          refine l_q rfl rfl rfl (q_assign rfl rfl) ?_
          refine l_nil ?_
          refine n_then ?_
          refine t_ret ?_
          refine n_ret_then ?_
          refine n_ret_scope ?_
          refine n_ret_block ?_
          refine n_ret1 rfl rfl (fun w' hw => ?_)
          -- leaf 4
          refine ⟨?_, hw.below⟩
          rw [if_neg hr]
end Go.Tri
