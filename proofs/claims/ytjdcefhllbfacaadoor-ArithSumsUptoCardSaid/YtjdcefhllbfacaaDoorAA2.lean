/-
  A number at the beginning of a text.
-/
import Derived.Test.YtjdcefhllbfacaaDoorAA1
namespace Go.Tri
open Go.Proofs Go.RowKit
set_option maxRecDepth 10000 in
theorem literal_pure (s : List UInt8) (w : World) (hs : s.length ≤ 1000000000) (hne : s ≠ []) : Pure Tryd.prog 40 [str s] w (.tuple #[.int .i64 (litV s).1, .int .i64 ((litV s).2 : Int), .bool (numLit s).isSome]) := by
  have hs0 := List.length_pos_iff.2 hne
  have hul := litU_le hne
  refine enter Tryd.func40 rfl Tryd.ntmps40 rfl (St.start w (look w) (Le.refl _)) ?_
  refine t_seq ?_
  refine t_region ?_
  refine l_q rfl rfl rfl (q_assign rfl rfl) ?_
  refine l_q rfl rfl rfl (q_assign rfl rfl) ?_
  refine l_q rfl rfl rfl (q_assign rfl rfl) ?_
  refine l_nil ?_
  refine n_then ?_
  refine t_seq ?_
  refine t_region ?_
  refine l_q rfl rfl rfl (q_assign rfl rfl) ?_
  refine l_q rfl rfl rfl (q_assign rfl rfl) ?_
  refine l_nil ?_
  refine n_then ?_
  refine t_seq ?_
  refine t_region ?_
  refine l_q rfl rfl rfl (q_assign rfl rfl) ?_
  refine l_nil ?_
  refine n_then ?_
  refine t_cutE (ι := Unit) (fun _ => True) (fun _ => [(5, .int .i64 ((litU s).1 : Int)), (6, str (digS (litU s).1)), (7, .int .i64 ((litU s).2 : Int))]) [(0, _), (2, _), (3, _), (4, _)] (fun _ => look w) (fun _ => []) (sub_cons rfl (sub_cons rfl (sub_cons rfl (sub_cons rfl sub_nil)))) ?_ ?_
  · skip
    refine t_seq ?_
    refine t_region ?_
    refine l_q rfl rfl rfl (q_move rfl rfl) ?_
    refine l_q rfl rfl rfl ((by first | exact q_index_strN rfl Tryd.underlying9 rfl rfl (by omega) | exact q_index_str rfl Tryd.underlying9 rfl rfl (by omega))) ?_
    refine l_q rfl rfl rfl (q_eql_u8c rfl rfl rfl rfl) ?_
    refine l_nil ?_
    refine n_then ?_
    refine t_cond rfl (fun hc0 => ?_) (fun hc0 => ?_)
    · skip
      simp only [decide_eq_true_eq, decide_eq_false_iff_not] at hc0
      have h48 : nth s 0 0 = 48 := hc0
      refine t_seq ?_
      refine t_region ?_
      refine l_q rfl rfl rfl (q_assign rfl rfl) ?_
      refine l_q rfl rfl rfl (q_assign rfl rfl) ?_
      refine l_nil ?_
      refine n_then ?_
      refine t_seq ?_
      refine t_qreg ?_
      refine s_q rfl rfl rfl (q_move rfl rfl) ?_
      refine s_q rfl rfl rfl (q_len_str rfl Tryd.underlying9 rfl) ?_
      refine s_q rfl rfl rfl (q_gtr rfl rfl rfl) ?_
      refine s_q rfl rfl rfl (q_move rfl rfl) ?_
      refine s_and2 4 3 18 23 22 _ _ rfl rfl rfl rfl rfl rfl (fun h23 => by
          try simp at h23
          refine s_g rfl rfl rfl rfl rfl rfl (q_move rfl rfl) ?_
          refine s_g rfl rfl rfl rfl rfl rfl ((by first | exact q_index_strN rfl Tryd.underlying9 rfl rfl (by omega) | exact q_index_str rfl Tryd.underlying9 rfl rfl (by omega))) ?_
          refine s_g rfl rfl rfl rfl rfl rfl (q_or_u8 (d := 32) rfl rfl rfl) ?_
          refine s_g rfl rfl rfl rfl rfl rfl (q_eql_u8c rfl rfl rfl rfl) ?_
          exact s_val rfl
        ) (wanted_n rfl) rfl rfl rfl ?_
      refine s_done ?_
      refine n_then ?_
      refine t_cond rfl (fun hc1 => ?_) (fun hc1 => ?_)
      · skip
        have hU := litU_hex h48 hc1
        refine t_region ?_
        refine l_q rfl rfl rfl (q_assign rfl rfl) ?_
        refine l_q rfl rfl rfl (q_assign rfl rfl) ?_
        refine l_q rfl rfl rfl (q_assign rfl rfl) ?_
        refine l_nil ?_
        refine n_cut (()) ?_ (sub_cons' rfl (by rw [hU]; rfl) (sub_cons' rfl (by rw [hU]; rfl) (sub_cons' rfl (by rw [hU]; rfl) (sub_nil)))) (sub_cons rfl (sub_cons rfl (sub_cons rfl (sub_cons rfl sub_nil)))) (fun _ h => by try dsimp only; exact subC_st h)
        · trivial
      · skip
        have hU := litU_oct h48 hc1
        refine t_skip ?_
        refine n_cut (()) ?_ (sub_cons' rfl (by rw [hU]; rfl) (sub_cons' rfl (by rw [hU]; rfl) (sub_cons' rfl (by rw [hU]; rfl) (sub_nil)))) (sub_cons rfl (sub_cons rfl (sub_cons rfl (sub_cons rfl sub_nil)))) (fun _ h => by try dsimp only; exact subC_st h)
        · trivial
    · skip
      simp only [decide_eq_true_eq, decide_eq_false_iff_not] at hc0
      have hU := litU_dec (s := s) hc0
      refine t_skip ?_
      refine n_cut (()) ?_ (sub_cons' rfl (by rw [hU]; rfl) (sub_cons' rfl (by rw [hU]; rfl) (sub_cons' rfl (by rw [hU]; rfl) (sub_nil)))) (sub_cons rfl (sub_cons rfl (sub_cons rfl (sub_cons rfl sub_nil)))) (fun _ h => by try dsimp only; exact subC_st h)
      · trivial
  rintro _ _
  refine t_seq ?_
  refine t_region ?_
  refine l_q rfl rfl rfl (q_move rfl rfl) ?_
  refine l_q rfl rfl rfl (q_assign rfl rfl) ?_
  refine l_q rfl rfl rfl (q_assign rfl rfl) ?_
  refine l_nil ?_
  refine n_then ?_
  refine t_cutE (ι := Int × Nat) (fun zz => litG ((litU s).1) s s.length 0 (litU s).2 = (zz.1, zz.2) ∧ zz.2 ≤ s.length) (fun zz => [(8, .int .i64 zz.1), (9, .int .i64 (zz.2 : Int))]) [(5, _), (6, _), (7, _), (0, _), (2, _), (3, _), (4, _)] (fun zz => look w) (fun zz => []) (sub_cons rfl (sub_cons rfl (sub_cons rfl (sub_cons rfl (sub_cons rfl (sub_cons rfl (sub_cons rfl sub_nil))))))) ?_ ?_
  · skip
    refine t_block ?_
    refine t_loopE (ι := Int × Nat × Nat) (fun zz => zz.2.1 ≤ s.length ∧ litG ((litU s).1) s s.length 0 (litU s).2 = litG ((litU s).1) s zz.2.2 zz.1 zz.2.1 ∧ s.length - zz.2.1 ≤ zz.2.2) (fun zz => s.length - zz.2.1) (fun zz => [(8, .int .i64 zz.1), (9, .int .i64 (zz.2.1 : Int))]) [(5, _), (6, _), (7, _), (0, _), (2, _), (3, _), (4, _)] (fun zz => look w) (fun zz => []) (0, (litU s).2, s.length) ?_ (sub_cons rfl (sub_cons rfl sub_nil)) (sub_cons rfl (sub_cons rfl (sub_cons rfl (sub_cons rfl (sub_cons rfl (sub_cons rfl (sub_cons rfl sub_nil))))))) (fun _ h => subC_st h) ?_
    · try dsimp only
      exact ⟨hul, rfl, by omega⟩
    rintro ⟨n, i, g⟩ ⟨hi, hx, hg⟩
    try dsimp only at *
    refine t_seq ?_
    refine t_seq ?_
    refine t_region ?_
    refine l_q rfl rfl rfl (q_move rfl rfl) ?_
    refine l_q rfl rfl rfl (q_move rfl rfl) ?_
    refine l_q rfl rfl rfl (q_len_str rfl Tryd.underlying9 rfl) ?_
    refine l_q rfl rfl rfl (q_lss rfl rfl rfl) ?_
    refine l_nil ?_
    refine n_then ?_
    refine t_cond rfl (fun hc2 => ?_) (fun hc2 => ?_)
    · skip
      try simp at hc2
      have hl : i < s.length := by omega
      refine t_skip ?_
      refine n_then ?_
      refine t_block ?_
      refine t_seq ?_
      refine t_region ?_
      refine l_q rfl rfl rfl (q_move rfl rfl) ?_
      refine l_q rfl rfl rfl (q_move rfl rfl) ?_
      refine l_q rfl rfl rfl ((by first | exact q_index_strN rfl Tryd.underlying9 rfl rfl (by omega) | exact q_index_str rfl Tryd.underlying9 rfl rfl (by omega))) ?_
      refine l_q rfl rfl rfl (q_assign rfl rfl) ?_
      refine l_nil ?_
      refine n_then ?_
      refine t_cutE (ι := Unit) (fun _ => True) (fun _ => [(10, u8 (lowX ((litU s).1) (nth s i 0)))]) [(8, _), (9, _), (5, _), (6, _), (7, _), (0, _), (2, _), (3, _), (4, _), (28, _)] (fun _ => look w) (fun _ => []) (sub_cons rfl (sub_cons rfl (sub_cons rfl (sub_cons rfl (sub_cons rfl (sub_cons rfl (sub_cons rfl (sub_cons rfl (sub_cons rfl (sub_cons rfl sub_nil)))))))))) ?_ ?_
      · skip
        refine t_seq ?_
        refine t_qreg ?_
        refine s_q rfl rfl rfl (q_move rfl rfl) ?_
        refine s_q rfl rfl rfl (q_eql rfl rfl rfl) ?_
        refine s_q rfl rfl rfl (q_move rfl rfl) ?_
        refine s_and2 2 2 34 37 36 _ _ rfl rfl rfl rfl rfl rfl (fun h37 => by
            try simp at h37
            refine s_g rfl rfl rfl rfl rfl rfl (q_move rfl rfl) ?_
            refine s_g rfl rfl rfl rfl rfl rfl (q_leq rfl rfl rfl) ?_
            exact s_val rfl
          ) (wanted_n rfl) rfl rfl rfl ?_
        refine s_q rfl rfl rfl (q_move rfl rfl) ?_
        refine s_and2 2 6 38 41 40 _ _ rfl rfl rfl rfl rfl rfl (fun h41 => by
            try simp at h41
            refine s_g rfl rfl rfl rfl rfl rfl (q_move rfl rfl) ?_
            refine s_g rfl rfl rfl rfl rfl rfl (q_leq rfl rfl rfl) ?_
            exact s_val rfl
          ) (wanted_n rfl) rfl rfl rfl ?_
        refine s_done ?_
        refine n_then ?_
        refine t_cond rfl (fun hc3 => ?_) (fun hc3 => ?_)
        · skip
          have hlx := lowX_on hc3
          refine t_region ?_
          refine l_q rfl rfl rfl (q_move rfl rfl) ?_
          refine l_q rfl rfl rfl (q_or_u8 (d := 32) rfl rfl rfl) ?_
          refine l_q rfl rfl rfl (q_assign rfl rfl) ?_
          refine l_nil ?_
          refine n_cut (()) ?_ (sub_cons' rfl (by rw [hlx]) (sub_nil)) (sub_cons rfl (sub_cons rfl (sub_cons rfl (sub_cons rfl (sub_cons rfl (sub_cons rfl (sub_cons rfl (sub_cons rfl (sub_cons rfl (sub_cons rfl sub_nil)))))))))) (fun _ h => by try dsimp only; exact subC_st h)
          · trivial
        · skip
          have hlx := lowX_off hc3
          refine t_skip ?_
          refine n_cut (()) ?_ (sub_cons' rfl (by rw [hlx]) (sub_nil)) (sub_cons rfl (sub_cons rfl (sub_cons rfl (sub_cons rfl (sub_cons rfl (sub_cons rfl (sub_cons rfl (sub_cons rfl (sub_cons rfl (sub_cons rfl sub_nil)))))))))) (fun _ h => by try dsimp only; exact subC_st h)
          · trivial
      rintro _ _
      refine t_seq ?_
      refine t_region ?_
      refine l_q rfl rfl rfl (q_move rfl rfl) ?_
      refine l_q rfl rfl rfl (q_move rfl rfl) ?_
      refine l_q rfl rfl rfl (quiet_call rfl rfl rfl Tryd.func51 (by kernel_rfl) rfl ((fun w _ => indexByte_pure (digS ((litU s).1)) (lowX ((litU s).1) (nth s i 0)) w))) ?_
      refine l_q rfl rfl rfl (q_assign rfl rfl) ?_
      refine l_nil ?_
      refine n_then ?_
      refine t_seq ?_
      refine t_seq ?_
      refine t_region ?_
      refine l_q rfl rfl rfl (q_move rfl rfl) ?_
      refine l_q rfl rfl rfl (q_lss rfl rfl rfl) ?_
      refine l_nil ?_
      refine n_then ?_
      refine t_cond rfl (fun hc4 => ?_) (fun hc4 => ?_)
      · skip
        have hd : digV ((litU s).1) (nth s i 0) < 0 := of_decide_eq_true hc4
        refine t_exit ?_
        refine n_exit_then ?_
        refine n_exit_other rfl ?_
        refine n_exit_then ?_
        refine n_exit_block ?_
        refine n_cut ((n, i)) ?_ (sub_cons rfl (sub_cons rfl sub_nil)) (sub_cons rfl (sub_cons rfl (sub_cons rfl (sub_cons rfl (sub_cons rfl (sub_cons rfl (sub_cons rfl sub_nil))))))) (fun _ h => by try dsimp only; exact subC_st h)
        · try dsimp only
          exact ⟨by rw [hx, litG_stop hd], by omega⟩
      · skip
        have hd : ¬ digV ((litU s).1) (nth s i 0) < 0 := of_decide_eq_false hc4
        refine t_skip ?_
        refine n_then ?_
        refine t_seq ?_
        refine t_region ?_
        refine l_q rfl rfl rfl (q_move rfl rfl) ?_
        refine l_q rfl rfl rfl (q_move rfl rfl) ?_
        refine l_q rfl rfl rfl (q_mul rfl rfl rfl) ?_
        refine l_q rfl rfl rfl (q_move rfl rfl) ?_
        refine l_q rfl rfl rfl (q_add rfl rfl rfl) ?_
        refine l_q rfl rfl rfl (q_assign rfl rfl) ?_
        refine l_nil ?_
        refine n_then ?_
        refine t_region ?_
        refine l_q rfl rfl rfl (q_move rfl rfl) ?_
        refine l_q rfl rfl rfl (q_add64 rfl rfl rfl (by omega)) ?_
        refine l_q rfl rfl rfl (q_assign rfl rfl) ?_
        refine l_nil ?_
        refine n_block ?_
        refine n_roundE ((w64 (w64 (n * (((litU s).1) : Int)) + digV ((litU s).1) (nth s i 0)), i + 1, g - 1)) ?_ ?_ (sub_cons rfl (sub_cons rfl sub_nil)) (sub_cons rfl (sub_cons rfl (sub_cons rfl (sub_cons rfl (sub_cons rfl (sub_cons rfl (sub_cons rfl sub_nil))))))) (fun _ h => by try dsimp only; exact subC_st h)
        · try dsimp only
          exact ⟨by omega, by rw [hx, litG_step hg hl hd], by omega⟩
        · try dsimp only
          show s.length - (i + 1) < s.length - i
          omega
    · skip
      try simp at hc2
      have hl : ¬ i < s.length := by omega
      refine t_exit ?_
      refine n_exit_then ?_
      refine n_exit_then ?_
      refine n_exit_block ?_
      refine n_cut ((n, i)) ?_ (sub_cons rfl (sub_cons rfl sub_nil)) (sub_cons rfl (sub_cons rfl (sub_cons rfl (sub_cons rfl (sub_cons rfl (sub_cons rfl (sub_cons rfl sub_nil))))))) (fun _ h => by try dsimp only; exact subC_st h)
      · try dsimp only
        exact ⟨by rw [hx, litG_end hl], hi⟩
  rintro ⟨n, i⟩ ⟨hr, hi⟩
  try dsimp only at *
  refine t_seq ?_
  refine t_seq ?_
  refine t_qreg ?_
  refine s_q rfl rfl rfl (q_move rfl rfl) ?_
  refine s_q rfl rfl rfl (q_move rfl rfl) ?_
  refine s_q rfl rfl rfl (q_eql rfl rfl rfl) ?_
  refine s_q rfl rfl rfl (q_move rfl rfl) ?_
  refine s_or2 13 3 59 73 72 _ _ rfl rfl rfl rfl rfl rfl (fun h73 => by
      try simp at h73
      refine s_g rfl rfl rfl rfl rfl rfl (q_move rfl rfl) ?_
      refine s_g rfl rfl rfl rfl rfl rfl (q_move rfl rfl) ?_
      refine s_g rfl rfl rfl rfl rfl rfl (q_len_str rfl Tryd.underlying9 rfl) ?_
      refine s_g rfl rfl rfl rfl rfl rfl (q_lss rfl rfl rfl) ?_
      refine s_g rfl rfl rfl rfl rfl rfl (q_move rfl rfl) ?_
      refine s_and2 7 8 64 72 71 _ _ rfl rfl rfl rfl rfl rfl (fun h72 => by
          try simp at h72
          refine s_g rfl rfl rfl rfl rfl rfl (q_move rfl rfl) ?_
          refine s_g rfl rfl rfl rfl rfl rfl (q_move rfl rfl) ?_
          refine s_g rfl rfl rfl rfl rfl rfl (q_move rfl rfl) ?_
          refine s_g rfl rfl rfl rfl rfl rfl (q_add64 rfl rfl rfl (by omega)) ?_
          refine s_g rfl rfl rfl rfl rfl rfl (q_slice_str rfl Tryd.underlying9 rfl rfl rfl (by omega)) ?_
          refine s_g rfl rfl rfl rfl rfl rfl (q_cat rfl rfl rfl (by first | omega | (simp only [List.length_append, List.length_cons, List.length_nil, List.length_take, List.length_drop]; omega))) ?_
          refine s_g rfl rfl rfl rfl rfl rfl (quiet_call rfl rfl rfl Tryd.func46 (by kernel_rfl) rfl ((fun w _ => name_pure _ w (by simp only [List.length_append, List.length_take, List.length_drop, List.length_cons, List.length_nil]; omega)))) ?_
          exact s_val rfl
        ) (wanted_g rfl rfl rfl rfl) rfl rfl rfl ?_
      exact s_val rfl
    ) (wanted_n rfl) rfl rfl rfl ?_
  refine s_done ?_
  refine n_then ?_
  refine t_cond rfl (fun hc5 => ?_) (fun hc5 => ?_)
  · skip
    have hres := numLit_none (by omega) hr hc5
    refine t_seq ?_
    refine t_region ?_
    refine l_q rfl rfl rfl (q_assign rfl rfl) ?_
    refine l_q rfl rfl rfl (q_assign rfl rfl) ?_
    refine l_q rfl rfl rfl (q_assign rfl rfl) ?_
    refine l_nil ?_
    refine n_then ?_
    refine t_ret ?_
    refine n_ret_then ?_
    refine n_ret3 rfl rfl rfl rfl (fun w' hw => ?_)
    -- leaf 0
    refine ⟨?_, hw.below⟩
    rw [litV, hres]; rfl
  · skip
    have hres := numLit_some (by omega) hr hc5
    refine t_skip ?_
    refine n_then ?_
    refine t_seq ?_
    refine t_region ?_
    refine l_q rfl rfl rfl (q_move rfl rfl) ?_
    refine l_q rfl rfl rfl (q_move rfl rfl) ?_
    refine l_q rfl rfl rfl (q_assign rfl rfl) ?_
    refine l_q rfl rfl rfl (q_assign rfl rfl) ?_
    refine l_q rfl rfl rfl (q_assign rfl rfl) ?_
    refine l_nil ?_
    refine n_then ?_
    refine t_ret ?_
    refine n_ret3 rfl rfl rfl rfl (fun w' hw => ?_)
    -- leaf 1
    refine ⟨?_, hw.below⟩
    rw [litV, hres]; rfl
end Go.Tri
