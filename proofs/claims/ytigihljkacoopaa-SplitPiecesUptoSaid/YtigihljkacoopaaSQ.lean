/-
  A text of a proof (SQ).
-/
import Derived.Test.YtigihljkacoopaaPBlank
import Derived.Test.YtigihljkacoopaaSN
import Derived.Test.YtigihljkacoopaaTriB2
namespace Go.Tri
open Go.Proofs Go.RowKit
theorem stC_ones (t : List UInt8) : ∀ u ∈ stC t, u.oneCell' = true := fun u hu => by
  rw [stC, List.mem_singleton] at hu
  subst hu
  rfl
theorem slice_one {s : List UInt8} {k : Nat} (h : k < s.length) : ((s.drop ((k : Int)).toNat).take (((k : Int) + 1).toNat - ((k : Int)).toNat)) = [nth s k 0] := by
  rw [show ((k : Int)).toNat = k from rfl, show ((k : Int) + 1).toNat = k + 1 by omega, drop_nth 0 h, show k + 1 - k = 1 by omega]
  rfl
theorem ti36 : TI Try.prog 36 1 24 (.slice none 0 0) := ti_of (by kernel_rfl)
set_option maxRecDepth 10000 in
theorem splitBlanks_pure (s : List UInt8) (c : UInt8) (w : World) (hs : s.length ≤ 1048576) : Pure Try.prog 5 [str s, u8 c] w (.bool true) := by
  refine enter Try.func5 rfl Try.ntmps5 rfl (St.start w (look w) (Le.refl _)) ?_
  refine t_seq ?_
  refine t_region ?_
  refine l_q rfl rfl rfl (q_assign rfl rfl) ?_
  refine l_nil ?_
  refine n_then ?_
  refine t_seq ?_
  refine t_seq ?_
  refine t_region ?_
  refine l_q rfl rfl rfl (quiet_call rfl rfl rfl Try.func8 (by kernel_rfl) rfl (fun w _ => awake_pure w)) ?_
  refine l_q rfl rfl rfl (q_not rfl rfl) ?_
  refine l_nil ?_
  refine n_then ?_
  refine t_cond rfl (fun hc0 => ?_) (fun hc0 => ?_)
  · skip
    try simp at hc0
  · skip
    try simp at hc0
    refine t_skip ?_
    refine n_then ?_
    refine t_seq ?_
    refine t_seq ?_
    refine t_qreg ?_
    refine s_q rfl rfl rfl (q_move rfl rfl) ?_
    refine s_q rfl rfl rfl (q_len_str rfl Try.underlying9 rfl) ?_
    refine s_q rfl rfl rfl (q_gtr rfl rfl rfl) ?_
    refine s_q rfl rfl rfl (q_move rfl rfl) ?_
    refine s_short 2 3 21 24 23 false _ _ rfl rfl rfl rfl rfl rfl (fun h24 => by
        try simp at h24
        refine s_g rfl rfl rfl rfl rfl rfl (q_move rfl rfl) ?_
        refine s_g rfl rfl rfl rfl rfl rfl (q_eql_u8c rfl rfl rfl rfl) ?_
        exact s_val rfl
      ) rfl rfl rfl (.inr ⟨rfl, rfl⟩) ?_
    refine s_q rfl rfl rfl (q_move rfl rfl) ?_
    refine s_short 2 7 25 28 27 false _ _ rfl rfl rfl rfl rfl rfl (fun h28 => by
        try simp at h28
        refine s_g rfl rfl rfl rfl rfl rfl (q_move rfl rfl) ?_
        refine s_g rfl rfl rfl rfl rfl rfl (q_eql_u8c rfl rfl rfl rfl) ?_
        exact s_val rfl
      ) rfl rfl rfl (.inr ⟨rfl, rfl⟩) ?_
    refine s_q rfl rfl rfl (q_move rfl rfl) ?_
    refine s_short 2 11 29 32 31 false _ _ rfl rfl rfl rfl rfl rfl (fun h32 => by
        try simp at h32
        refine s_g rfl rfl rfl rfl rfl rfl (q_move rfl rfl) ?_
        refine s_g rfl rfl rfl rfl rfl rfl (q_eql_u8c rfl rfl rfl rfl) ?_
        exact s_val rfl
      ) rfl rfl rfl (.inr ⟨rfl, rfl⟩) ?_
    refine s_done ?_
    refine n_then ?_
    refine t_cond rfl (fun hc1 => ?_) (fun hc1 => ?_)
    · skip
      refine t_seq ?_
      refine t_region ?_
      refine l_q rfl rfl rfl (q_assign rfl rfl) ?_
      refine l_nil ?_
      refine n_then ?_
      refine t_ret ?_
      refine n_ret_then ?_
      refine n_ret1 rfl rfl (fun w' hw => ?_)
      -- leaf 0
      exact ⟨rfl, hw.below⟩
    · skip
      have h1 : (decide ((190 : Int) < (s.length : Int)) || decide (c = 9) || decide (c = 10) || decide (c = 32)) = false := hc1
      simp only [Bool.or_eq_false_iff, decide_eq_false_iff_not] at h1
      have hsoft : isSoftB c = false := by simp [isSoftB, h1.1.1.2, h1.1.2, h1.2]
      have hl190 : s.length ≤ 190 := by have := h1.1.1.1; omega
      refine t_skip ?_
      refine n_then ?_
      refine t_seq ?_
      refine t_region ?_
      refine l_q rfl rfl rfl (q_assign rfl rfl) ?_
      refine l_q rfl rfl rfl (q_assign rfl rfl) ?_
      refine l_nil ?_
      refine n_then ?_
      refine t_seq ?_
      refine t_region ?_
      refine l_q rfl rfl rfl (q_assign rfl rfl) ?_
      refine l_q rfl rfl rfl (q_assign rfl rfl) ?_
      refine l_nil ?_
      refine n_then ?_
      refine t_seq ?_
      refine t_seq ?_
      refine t_region ?_
      refine l_q rfl rfl rfl (q_assign rfl rfl) ?_
      refine l_nil ?_
      refine n_then ?_
      refine t_block ?_
      refine t_loopE (ι := Nat × Value × Value × (List (List UInt8) × List UInt8) × (List (List UInt8) × List UInt8)) (fun zz => zz.1 ≤ s.length ∧ (s.take zz.1).foldl wstep ([], []) = zz.2.2.2.1 ∧ (s.take zz.1).foldl (pstep c) ([], []) = zz.2.2.2.2 ∧ Short zz.1 zz.2.2.2.1 ∧ Short zz.1 zz.2.2.2.2) (fun zz => s.length - zz.1) (fun zz => [(9, .int .i64 (zz.1 : Int)), (5, zz.2.1), (6, zz.2.2.1), (7, str zz.2.2.2.1.2), (8, str zz.2.2.2.2.2)]) [(0, _), (1, _), (4, _), (17, _), (32, _)] (fun zz => look w) (fun zz => [tvec 9 1 stC zz.2.1 zz.2.2.2.1.1, tvec 9 1 stC zz.2.2.1 zz.2.2.2.2.1]) (0, .slice none 0 0, .slice none 0 0, ([], []), ([], [])) ?_ (sub_cons rfl (sub_cons rfl (sub_cons rfl (sub_cons rfl (sub_cons rfl sub_nil))))) (sub_cons rfl (sub_cons rfl (sub_cons rfl (sub_cons rfl (sub_cons rfl sub_nil))))) (fun _ h => st_nilT 9 1 stC (st_nilT 9 1 stC h)) ?_
      · exact ⟨Nat.zero_le _, rfl, rfl, ⟨Nat.le_refl _, Nat.le_refl _⟩, ⟨Nat.le_refl _, Nat.le_refl _⟩⟩
      rintro ⟨k, vw, vp, x, y⟩ ⟨hk, hx, hy, hsx, hsy⟩
      try dsimp only at *
      have hsx1 := hsx.1
      have hsx2 := hsx.2
      have hsy1 := hsy.1
      have hsy2 := hsy.2
      refine t_seq ?_
      refine t_seq ?_
      refine t_region ?_
      refine l_q rfl rfl rfl (q_move rfl rfl) ?_
      refine l_q rfl rfl rfl (q_move rfl rfl) ?_
      refine l_q rfl rfl rfl (q_len_str rfl Try.underlying9 rfl) ?_
      refine l_q rfl rfl rfl (q_lss rfl rfl rfl) ?_
      refine l_nil ?_
      refine n_then ?_
      refine t_cond rfl (fun hc2 => ?_) (fun hc2 => ?_)
      · skip
        try simp at hc2
        refine t_skip ?_
        refine n_then ?_
        refine t_seq ?_
        refine t_block ?_
        refine t_cutE (ι := Value × (List (List UInt8) × List UInt8)) (fun zz => zz.2 = wstep x (nth s k 0)) (fun zz => [(5, zz.1), (7, str zz.2.2)]) [(9, _), (6, _), (8, _), (0, _), (1, _), (4, _), (17, _), (32, _), (36, _)] (fun zz => look w) (fun zz => [tvec 9 1 stC zz.1 zz.2.1, tvec 9 1 stC vp y.1]) (sub_cons rfl (sub_cons rfl (sub_cons rfl (sub_cons rfl (sub_cons rfl (sub_cons rfl (sub_cons rfl (sub_cons rfl (sub_cons rfl sub_nil))))))))) ?_ ?_
        · skip
          refine t_seq ?_
          refine t_region ?_
          refine l_q rfl rfl rfl (q_move rfl rfl) ?_
          refine l_q rfl rfl rfl (q_move rfl rfl) ?_
          refine l_q rfl rfl rfl ((by first | exact q_index_strN rfl Try.underlying9 rfl rfl (by omega) | exact q_index_str rfl Try.underlying9 rfl rfl (by omega))) ?_
          refine l_q rfl rfl rfl (q_eql_u8c rfl rfl rfl rfl) ?_
          refine l_nil ?_
          refine n_then ?_
          refine t_cond rfl (fun hc3 => ?_) (fun hc3 => ?_)
          · skip
            have hc3 : nth s k 0 = 32 := of_decide_eq_true hc3
            refine t_seq ?_
            refine t_seq ?_
            refine t_region ?_
            refine l_q rfl rfl rfl (q_move rfl rfl) ?_
            refine l_q rfl rfl rfl (q_neq_str rfl rfl rfl) ?_
            refine l_nil ?_
            refine n_then ?_
            refine t_cond rfl (fun hc4 => ?_) (fun hc4 => ?_)
            · skip
              have hc4 : ¬ x.2 = [] := of_decide_eq_true hc4
              refine t_region ?_
              refine l_q rfl rfl rfl (q_move rfl rfl) ?_
              refine l_q rfl rfl rfl (q_move rfl rfl) ?_
              refine l_e rfl rfl rfl (e_buildSlice1 rfl Try.underlying36 ti9 rfl rfl rfl (by first | exact One.cells (by assumption) | rfl) rfl) ?_
              rintro _ _ _ ⟨b47, rfl, rfl, rfl⟩
              refine l_e rfl rfl rfl (e_appendT (f := stC) (c := x.2) rfl Try.underlying36 ti9 rfl rfl rfl rfl rfl rfl rfl (stC_ones _) (by simp only [maxLen]; omega) (by omega)) ?_
              rintro v48 _ _ ⟨rfl, rfl⟩
              refine l_q rfl rfl rfl (q_assign rfl rfl) ?_
              refine l_nil ?_
              refine n_then ?_
              refine t_region ?_
              refine l_q rfl rfl rfl (q_assign rfl rfl) ?_
              refine l_nil ?_
              refine n_cut ((v48, (x.1 ++ [x.2], []))) ?_ (sub_cons rfl (sub_cons rfl sub_nil)) (sub_cons rfl (sub_cons rfl (sub_cons rfl (sub_cons rfl (sub_cons rfl (sub_cons rfl (sub_cons rfl (sub_cons rfl (sub_cons rfl sub_nil))))))))) (fun _ h => by try dsimp only; exact subC_st h)
              · show _ = wstep x _; rw [wstep, if_pos hc3, if_neg hc4]
            · skip
              have hc4 : x.2 = [] := Decidable.not_not.1 (of_decide_eq_false hc4)
              refine t_skip ?_
              refine n_then ?_
              refine t_region ?_
              refine l_q rfl rfl rfl (q_assign rfl rfl) ?_
              refine l_nil ?_
              refine n_cut ((vw, (x.1, []))) ?_ (sub_cons rfl (sub_cons rfl sub_nil)) (sub_cons rfl (sub_cons rfl (sub_cons rfl (sub_cons rfl (sub_cons rfl (sub_cons rfl (sub_cons rfl (sub_cons rfl (sub_cons rfl sub_nil))))))))) (fun _ h => by try dsimp only; exact subC_st h)
              · show _ = wstep x _; rw [wstep, if_pos hc3, if_pos hc4]
          · skip
            have hc3 : ¬ nth s k 0 = 32 := of_decide_eq_false hc3
            refine t_region ?_
            refine l_q rfl rfl rfl (q_move rfl rfl) ?_
            refine l_q rfl rfl rfl (q_move rfl rfl) ?_
            refine l_q rfl rfl rfl (q_move rfl rfl) ?_
            refine l_q rfl rfl rfl (q_move rfl rfl) ?_
            refine l_q rfl rfl rfl (q_add64 rfl rfl rfl (by omega)) ?_
            refine l_q rfl rfl rfl (q_slice_str rfl Try.underlying9 rfl rfl rfl (by omega)) ?_
            refine l_q rfl rfl rfl (q_cat rfl rfl rfl (by first | omega | (simp only [List.length_append, List.length_cons, List.length_nil, List.length_take, List.length_drop]; omega))) ?_
            refine l_q rfl rfl rfl (q_assign rfl rfl) ?_
            refine l_nil ?_
            refine n_cut ((vw, (x.1, x.2 ++ [nth s k 0]))) ?_ (sub_cons rfl (sub_cons' rfl (by rw [slice_one (by omega)]) (sub_nil))) (sub_cons rfl (sub_cons rfl (sub_cons rfl (sub_cons rfl (sub_cons rfl (sub_cons rfl (sub_cons rfl (sub_cons rfl (sub_cons rfl sub_nil))))))))) (fun _ h => by try dsimp only; exact subC_st h)
            · show _ = wstep x _; rw [wstep, if_neg hc3]
        rintro ⟨vw2, x2⟩ hx2
        try dsimp only at *
        refine t_seq ?_
        refine t_region ?_
        refine l_q rfl rfl rfl (q_move rfl rfl) ?_
        refine l_q rfl rfl rfl (q_move rfl rfl) ?_
        refine l_q rfl rfl rfl ((by first | exact q_index_strN rfl Try.underlying9 rfl rfl (by omega) | exact q_index_str rfl Try.underlying9 rfl rfl (by omega))) ?_
        refine l_q rfl rfl rfl (q_move rfl rfl) ?_
        refine l_q rfl rfl rfl (q_eql_u8 rfl rfl rfl) ?_
        refine l_nil ?_
        refine n_then ?_
        refine t_cond rfl (fun hc5 => ?_) (fun hc5 => ?_)
        · skip
          have hc5 : nth s k 0 = c := of_decide_eq_true hc5
          refine t_seq ?_
          refine t_region ?_
          refine l_q rfl rfl rfl (q_move rfl rfl) ?_
          refine l_q rfl rfl rfl (q_move rfl rfl) ?_
          refine l_e rfl rfl rfl (e_buildSlice1 rfl Try.underlying36 ti9 rfl rfl rfl (by first | exact One.cells (by assumption) | rfl) rfl) ?_
          rintro _ _ _ ⟨b63, rfl, rfl, rfl⟩
          refine l_e rfl rfl rfl (e_appendT (f := stC) (c := y.2) rfl Try.underlying36 ti9 rfl rfl rfl rfl rfl rfl rfl (stC_ones _) (by simp only [maxLen]; omega) (by omega)) ?_
          rintro v64 _ _ ⟨rfl, rfl⟩
          refine l_q rfl rfl rfl (q_assign rfl rfl) ?_
          refine l_nil ?_
          refine n_then ?_
          refine t_region ?_
          refine l_q rfl rfl rfl (q_assign rfl rfl) ?_
          refine l_nil ?_
          refine n_block ?_
          refine n_then ?_
          refine t_region ?_
          refine l_q rfl rfl rfl (q_move rfl rfl) ?_
          refine l_q rfl rfl rfl (q_add64 rfl rfl rfl (by omega)) ?_
          refine l_q rfl rfl rfl (q_assign rfl rfl) ?_
          refine l_nil ?_
          refine n_roundE ((k + 1, vw2, v64, x2, (y.1 ++ [y.2], []))) ?_ ?_ (sub_cons rfl (sub_cons rfl (sub_cons rfl (sub_cons rfl (sub_cons rfl sub_nil))))) (sub_cons rfl (sub_cons rfl (sub_cons rfl (sub_cons rfl (sub_cons rfl sub_nil))))) (fun _ h => by try dsimp only; exact subC_st h)
          · refine ⟨(show k + 1 ≤ _ by omega), ?_, ?_, ?_, ?_⟩
            · rw [take_fold wstep ([], []) 0 (by omega), hx, ← hx2]
            · rw [take_fold (pstep c) ([], []) 0 (by omega), hy]; exact if_pos hc5
            · rw [hx2]; exact short_w _ hsx
            · exact (show pstep c y (nth s k 0) = (y.1 ++ [y.2], []) from if_pos hc5) ▸ short_p c (nth s k 0) hsy
          · show s.length - (k + 1) < s.length - k; omega
        · skip
          have hc5 : ¬ nth s k 0 = c := of_decide_eq_false hc5
          refine t_region ?_
          refine l_q rfl rfl rfl (q_move rfl rfl) ?_
          refine l_q rfl rfl rfl (q_move rfl rfl) ?_
          refine l_q rfl rfl rfl (q_move rfl rfl) ?_
          refine l_q rfl rfl rfl (q_move rfl rfl) ?_
          refine l_q rfl rfl rfl (q_add64 rfl rfl rfl (by omega)) ?_
          refine l_q rfl rfl rfl (q_slice_str rfl Try.underlying9 rfl rfl rfl (by omega)) ?_
          refine l_q rfl rfl rfl (q_cat rfl rfl rfl (by first | omega | (simp only [List.length_append, List.length_cons, List.length_nil, List.length_take, List.length_drop]; omega))) ?_
          refine l_q rfl rfl rfl (q_assign rfl rfl) ?_
          refine l_nil ?_
          refine n_block ?_
          refine n_then ?_
          refine t_region ?_
          refine l_q rfl rfl rfl (q_move rfl rfl) ?_
          refine l_q rfl rfl rfl (q_add64 rfl rfl rfl (by omega)) ?_
          refine l_q rfl rfl rfl (q_assign rfl rfl) ?_
          refine l_nil ?_
          refine n_roundE ((k + 1, vw2, vp, x2, (y.1, y.2 ++ [nth s k 0]))) ?_ ?_ (sub_cons rfl (sub_cons rfl (sub_cons rfl (sub_cons rfl (sub_cons' rfl (by rw [slice_one (by omega)]) (sub_nil)))))) (sub_cons rfl (sub_cons rfl (sub_cons rfl (sub_cons rfl (sub_cons rfl sub_nil))))) (fun _ h => by try dsimp only; exact subC_st h)
          · refine ⟨(show k + 1 ≤ _ by omega), ?_, ?_, ?_, ?_⟩
            · rw [take_fold wstep ([], []) 0 (by omega), hx, ← hx2]
            · rw [take_fold (pstep c) ([], []) 0 (by omega), hy]; exact if_neg hc5
            · rw [hx2]; exact short_w _ hsx
            · exact (show pstep c y (nth s k 0) = (y.1, y.2 ++ [nth s k 0]) from if_neg hc5) ▸ short_p c (nth s k 0) hsy
          · show s.length - (k + 1) < s.length - k; omega
      · skip
        try simp at hc2
        have hfx : s.foldl wstep ([], []) = x := by rw [← hx, List.take_of_length_le (by omega)]
        have hfy : s.foldl (pstep c) ([], []) = y := by rw [← hy, List.take_of_length_le (by omega)]
        refine t_exit ?_
        refine n_exit_then ?_
        refine n_exit_then ?_
        refine n_exit_block ?_
        refine n_then ?_
        refine t_cutE (ι := Value × List (List UInt8)) (fun zz => zz.2 = lastW x) (fun zz => [(5, zz.1)]) [(9, _), (6, _), (7, _), (8, _), (0, _), (1, _), (4, _), (17, _), (32, _), (36, _)] (fun zz => look w) (fun zz => [tvec 9 1 stC zz.1 zz.2, tvec 9 1 stC vp y.1]) (sub_cons rfl (sub_cons rfl (sub_cons rfl (sub_cons rfl (sub_cons rfl (sub_cons rfl (sub_cons rfl (sub_cons rfl (sub_cons rfl (sub_cons rfl sub_nil)))))))))) ?_ ?_
        · skip
          refine t_seq ?_
          refine t_region ?_
          refine l_q rfl rfl rfl (q_move rfl rfl) ?_
          refine l_q rfl rfl rfl (q_neq_str rfl rfl rfl) ?_
          refine l_nil ?_
          refine n_then ?_
          refine t_cond rfl (fun hc6 => ?_) (fun hc6 => ?_)
          · skip
            have hc6 : ¬ x.2 = [] := of_decide_eq_true hc6
            refine t_region ?_
            refine l_q rfl rfl rfl (q_move rfl rfl) ?_
            refine l_q rfl rfl rfl (q_move rfl rfl) ?_
            refine l_e rfl rfl rfl (e_buildSlice1 rfl Try.underlying36 ti9 rfl rfl rfl (by first | exact One.cells (by assumption) | rfl) rfl) ?_
            rintro _ _ _ ⟨b76, rfl, rfl, rfl⟩
            refine l_e rfl rfl rfl (e_appendT (f := stC) (c := x.2) rfl Try.underlying36 ti9 rfl rfl rfl rfl rfl rfl rfl (stC_ones _) (by simp only [maxLen]; omega) (by omega)) ?_
            rintro v77 _ _ ⟨rfl, rfl⟩
            refine l_q rfl rfl rfl (q_assign rfl rfl) ?_
            refine l_nil ?_
            refine n_cut ((v77, x.1 ++ [x.2])) ?_ (sub_cons rfl sub_nil) (sub_cons rfl (sub_cons rfl (sub_cons rfl (sub_cons rfl (sub_cons rfl (sub_cons rfl (sub_cons rfl (sub_cons rfl (sub_cons rfl (sub_cons rfl sub_nil)))))))))) (fun _ h => by try dsimp only; exact subC_st h)
            · show _ = lastW x; rw [lastW, if_neg hc6]
          · skip
            have hc6 : x.2 = [] := Decidable.not_not.1 (of_decide_eq_false hc6)
            refine t_skip ?_
            refine n_cut ((vw, x.1)) ?_ (sub_cons rfl sub_nil) (sub_cons rfl (sub_cons rfl (sub_cons rfl (sub_cons rfl (sub_cons rfl (sub_cons rfl (sub_cons rfl (sub_cons rfl (sub_cons rfl (sub_cons rfl sub_nil)))))))))) (fun _ h => by try dsimp only; exact subC_st h)
            · show _ = lastW x; rw [lastW, if_pos hc6]
        rintro ⟨vw2, W⟩ hW
        try dsimp only at *
        refine t_cutE (ι := Value × List (List UInt8)) (fun zz => zz.2 = lastW y) (fun zz => [(6, zz.1)]) [(5, _), (9, _), (7, _), (8, _), (0, _), (1, _), (4, _), (17, _), (32, _), (36, _)] (fun zz => look w) (fun zz => [tvec 9 1 stC vw2 W, tvec 9 1 stC zz.1 zz.2]) (sub_cons rfl (sub_cons rfl (sub_cons rfl (sub_cons rfl (sub_cons rfl (sub_cons rfl (sub_cons rfl (sub_cons rfl (sub_cons rfl (sub_cons rfl sub_nil)))))))))) ?_ ?_
        · skip
          refine t_seq ?_
          refine t_region ?_
          refine l_q rfl rfl rfl (q_move rfl rfl) ?_
          refine l_q rfl rfl rfl (q_neq_str rfl rfl rfl) ?_
          refine l_nil ?_
          refine n_then ?_
          refine t_cond rfl (fun hc7 => ?_) (fun hc7 => ?_)
          · skip
            have hc7 : ¬ y.2 = [] := of_decide_eq_true hc7
            refine t_region ?_
            refine l_q rfl rfl rfl (q_move rfl rfl) ?_
            refine l_q rfl rfl rfl (q_move rfl rfl) ?_
            refine l_e rfl rfl rfl (e_buildSlice1 rfl Try.underlying36 ti9 rfl rfl rfl (by first | exact One.cells (by assumption) | rfl) rfl) ?_
            rintro _ _ _ ⟨b82, rfl, rfl, rfl⟩
            refine l_e rfl rfl rfl (e_appendT (f := stC) (c := y.2) rfl Try.underlying36 ti9 rfl rfl rfl rfl rfl rfl rfl (stC_ones _) (by simp only [maxLen]; omega) (by omega)) ?_
            rintro v83 _ _ ⟨rfl, rfl⟩
            refine l_q rfl rfl rfl (q_assign rfl rfl) ?_
            refine l_nil ?_
            refine n_cut ((v83, y.1 ++ [y.2])) ?_ (sub_cons rfl sub_nil) (sub_cons rfl (sub_cons rfl (sub_cons rfl (sub_cons rfl (sub_cons rfl (sub_cons rfl (sub_cons rfl (sub_cons rfl (sub_cons rfl (sub_cons rfl sub_nil)))))))))) (fun _ h => by try dsimp only; exact subC_st h)
            · show _ = lastW y; rw [lastW, if_neg hc7]
          · skip
            have hc7 : y.2 = [] := Decidable.not_not.1 (of_decide_eq_false hc7)
            refine t_skip ?_
            refine n_cut ((vp, y.1)) ?_ (sub_cons rfl sub_nil) (sub_cons rfl (sub_cons rfl (sub_cons rfl (sub_cons rfl (sub_cons rfl (sub_cons rfl (sub_cons rfl (sub_cons rfl (sub_cons rfl (sub_cons rfl sub_nil)))))))))) (fun _ h => by try dsimp only; exact subC_st h)
            · show _ = lastW y; rw [lastW, if_pos hc7]
        rintro ⟨vp2, Pq⟩ hPq
        try dsimp only at *
        refine t_seq ?_
        refine t_seq ?_
        refine t_freezeT (f := stC) (l := W) vw2 (fun _ => rfl) (fun J1 hJ1 hvw0 => ?_)
        refine t_freezeT (f := stC) (l := Pq) vp2 (fun _ => rfl) (fun J2 hJ2 hvp => ?_)
        have hvw := hvw0.mono hJ2
        refine t_region ?_
        refine l_q rfl rfl rfl (q_move rfl rfl) ?_
        refine l_q rfl rfl rfl (q_move rfl rfl) ?_
        refine l_e rfl rfl rfl (e_buildSliceN (vs := [_, _]) (css := [[vw2], [vp2]]) rfl Try.underlying37 ti36 rfl rfl rfl rfl (by simp [One.cells hvw.one, One.cells hvp.one]) (by simp [pcC, chC])) ?_
        rintro _ _ _ ⟨b86, rfl, rfl, rfl⟩
        refine l_heap (H' := tvec 36 1 oneC (.slice (some ⟨b86, 0, none⟩) 2 2) [vw2, vp2] :: _) ?_ (fun _ h => st_rowVec h rfl (by decide))
        refine l_freezeT (f := oneC) (l := [vw2, vp2]) (.slice (some ⟨b86, 0, none⟩) 2 2) (fun _ => rfl) (fun J3 hJ3 hsl2 => ?_)
        refine l_q rfl rfl rfl ((by first | exact q_lenV rfl Try.underlying37 rfl | exact q_len rfl Try.underlying37 rfl (Sl.lenOf (n := 2) hsl2 rfl) | exact q_len rfl Try.underlying37 rfl (Sl.lenOf hfv (List.length_map _)) | exact q_len rfl Try.underlying37 rfl (Sl.lenOf hll5 (List.length_map _)))) ?_
        refine l_q rfl rfl rfl (q_move rfl rfl) ?_
        refine l_nil ?_
        refine n_then ?_
        refine t_block ?_
        refine t_loopE (ι := Nat × Look) (fun zz => zz.1 ≤ 2 ∧ Le J3 zz.2) (fun zz => 2 - zz.1) (fun zz => [(88, .int .i64 (zz.1 : Int))]) [(6, _), (5, _), (9, _), (7, _), (8, _), (0, _), (1, _), (17, _), (32, _), (36, _), (86, _), (87, _)] (fun zz => zz.2) (fun zz => []) (0, J3) ?_ (sub_cons rfl sub_nil) (sub_cons rfl (sub_cons rfl (sub_cons rfl (sub_cons rfl (sub_cons rfl (sub_cons rfl (sub_cons rfl (sub_cons rfl (sub_cons rfl (sub_cons rfl (sub_cons rfl (sub_cons rfl sub_nil)))))))))))) (fun _ h => subC_st h) ?_
        · exact ⟨Nat.zero_le _, Le.refl _⟩
        rintro ⟨m, J⟩ ⟨hm, hJ⟩
        try dsimp only at *
        refine t_seq ?_
        refine t_region ?_
        refine l_q rfl rfl rfl (q_lss rfl rfl rfl) ?_
        refine l_nil ?_
        refine n_then ?_
        refine t_seq ?_
        refine t_cond rfl (fun hc8 => ?_) (fun hc8 => ?_)
        · skip
          try simp at hc8
          have hm2 : m < 2 := by omega
          have hll : Sl J 1 (nth [vw2, vp2] m undef) ((nth [W, Pq] m []).map stC) := by
            rcases (show m = 0 ∨ m = 1 by omega) with rfl | rfl
            · exact (hvw.mono hJ3).mono hJ
            · exact (hvp.mono hJ3).mono hJ
          refine t_skip ?_
          refine n_then ?_
          refine t_seq ?_
          refine t_block ?_
          refine t_seq ?_
          refine t_region ?_
          refine l_q rfl rfl rfl (q_move rfl rfl) ?_
          refine l_q rfl rfl rfl ((by first | exact q_indexAddrVN rfl Try.underlying37 ti36 rfl rfl (by omega) | exact q_indexAddrN rfl Try.underlying37 ti36 rfl rfl (Sl.shape (n := 2) (hsl2.mono hJ) rfl) (by omega) | exact q_indexAddrN rfl Try.underlying37 ti36 rfl rfl (Sl.shape hfv (List.length_map _)) (by omega) | exact q_indexAddrN rfl Try.underlying37 ti36 rfl rfl (Sl.shape hll5 (List.length_map _)) (by omega) | exact q_indexAddrV rfl Try.underlying37 ti36 rfl rfl (by omega) | exact q_indexAddr rfl Try.underlying37 ti36 rfl rfl (Sl.shape (n := 2) (hsl2.mono hJ) rfl) (by omega) | exact q_indexAddr rfl Try.underlying37 ti36 rfl rfl (Sl.shape hfv (List.length_map _)) (by omega) | exact q_indexAddr rfl Try.underlying37 ti36 rfl rfl (Sl.shape hll5 (List.length_map _)) (by omega))) ?_
          refine l_q rfl rfl rfl ((by first | exact q_load_row rfl Try.underlying36 rfl rfl (by rfl) | exact q_load rfl Try.underlying36 rfl rfl (rd_row1 (i := m) (hsl2.mono hJ) (show m < 2 by omega)) | exact q_load rfl Try.underlying36 rfl rfl (rd_row1 (i := i) hfv (by omega)) | exact q_load rfl Try.underlying36 rfl rfl (rd_st (i := i) hll5 (by omega)))) ?_
          refine l_q rfl rfl rfl (q_assign rfl rfl) ?_
          refine l_q rfl rfl rfl (q_assign rfl rfl) ?_
          refine l_nil ?_
          refine n_then ?_
          refine t_seq ?_
          refine t_region ?_
          refine l_q rfl rfl rfl (q_assign rfl rfl) ?_
          refine l_nil ?_
          refine n_then ?_
          refine t_cutE (ι := List UInt8) (fun zz => zz = if m = 1 then [c] else [32]) (fun zz => [(12, str zz)]) [(88, _), (6, _), (5, _), (9, _), (7, _), (8, _), (0, _), (1, _), (17, _), (32, _), (36, _), (86, _), (87, _), (89, _), (10, _), (11, _)] (fun zz => J) (fun zz => []) (sub_cons rfl (sub_cons rfl (sub_cons rfl (sub_cons rfl (sub_cons rfl (sub_cons rfl (sub_cons rfl (sub_cons rfl (sub_cons rfl (sub_cons rfl (sub_cons rfl (sub_cons rfl (sub_cons rfl (sub_cons rfl (sub_cons rfl (sub_cons rfl sub_nil)))))))))))))))) ?_ ?_
          · skip
            refine t_seq ?_
            refine t_region ?_
            refine l_q rfl rfl rfl (q_move rfl rfl) ?_
            refine l_q rfl rfl rfl (q_eql rfl rfl rfl) ?_
            refine l_nil ?_
            refine n_then ?_
            refine t_cond rfl (fun hc9 => ?_) (fun hc9 => ?_)
            · skip
              try simp at hc9
              have hc9 : m = 1 := by omega
              refine t_region ?_
              refine l_q rfl rfl rfl (q_move rfl rfl) ?_
              refine l_e rfl rfl rfl (e_buildSlice1 rfl Try.underlying38 ti5 rfl rfl rfl (by first | exact One.cells (by assumption) | rfl) rfl) ?_
              rintro _ _ _ ⟨b96, rfl, rfl, rfl⟩
              refine l_heap (H' := tvec 5 1 byC (.slice (some ⟨b96, 0, none⟩) 1 1) [c] :: _) ?_ (fun _ h => st_rowVec h rfl (by decide))
              refine l_q rfl rfl rfl (q_bytes_str rfl Try.underlying38 Try.underlying9 Try.underlying5 rfl) ?_
              refine l_q rfl rfl rfl (q_assign rfl rfl) ?_
              refine l_nil ?_
              refine n_cut ([c]) ?_ (sub_cons rfl sub_nil) (sub_cons rfl (sub_cons rfl (sub_cons rfl (sub_cons rfl (sub_cons rfl (sub_cons rfl (sub_cons rfl (sub_cons rfl (sub_cons rfl (sub_cons rfl (sub_cons rfl (sub_cons rfl (sub_cons rfl (sub_cons rfl (sub_cons rfl (sub_cons rfl sub_nil)))))))))))))))) (fun _ h => by try dsimp only; exact subC_st h)
              · exact (if_pos hc9).symm
            · skip
              try simp at hc9
              have hc9 : ¬ m = 1 := by omega
              refine t_skip ?_
              refine n_cut ([32]) ?_ (sub_cons rfl sub_nil) (sub_cons rfl (sub_cons rfl (sub_cons rfl (sub_cons rfl (sub_cons rfl (sub_cons rfl (sub_cons rfl (sub_cons rfl (sub_cons rfl (sub_cons rfl (sub_cons rfl (sub_cons rfl (sub_cons rfl (sub_cons rfl (sub_cons rfl (sub_cons rfl sub_nil)))))))))))))))) (fun _ h => by try dsimp only; exact subC_st h)
              · exact (if_neg hc9).symm
          rintro q hq
          try dsimp only at *
          refine t_seq ?_
          refine t_region ?_
          refine l_q rfl rfl rfl (q_move rfl rfl) ?_
          refine l_q rfl rfl rfl (q_build (pl := [(_, _), (_, _), (_, _)]) (cs := (pcC ⟨s, false, true⟩).toArray) rfl Try.underlying25 ti25 ⟨rfl, ⟨_, _, ti9⟩, rfl, ⟨_, _, ti4⟩, rfl, ⟨_, _, ti4⟩, trivial⟩ rfl rfl) ?_
          refine l_e rfl rfl rfl (e_buildSlice1 rfl Try.underlying22 ti25 rfl rfl rfl (by first | exact One.cells (by assumption) | rfl) rfl) ?_
          rintro _ _ _ ⟨b101, rfl, rfl, rfl⟩
          refine l_heap (H' := tvec 25 3 pcC (.slice (some ⟨b101, 0, none⟩) 1 1) [⟨s, false, true⟩] :: _) ?_ (fun _ h => st_rowVec h rfl (by decide))
          refine l_freezeT (f := pcC) (l := [⟨s, false, true⟩]) (.slice (some ⟨b101, 0, none⟩) 1 1) (fun _ => rfl) (fun J4 hJ4 hsl => ?_)
          refine l_q rfl rfl rfl (q_move rfl rfl) ?_
          refine l_e rfl rfl rfl (eff_call rfl rfl rfl Try.func9 (by kernel_rfl) rfl (fun w hw => fields_calls _ [⟨s, false, true⟩] q _ _ _ w (by simp) (fun p hp => by rw [List.mem_singleton] at hp; subst hp; show s.length ≤ _; omega) (by show s.length + 0 ≤ _; omega) hsl hw)) ?_
          rintro _ J5 _ ⟨hJ5, rfl, fv, err, rfl, hok⟩
          have hfb : fieldsAll [⟨s, false, true⟩] q = (nth [W, Pq] m []).map plainF := by
            rcases (show m = 0 ∨ m = 1 by omega) with rfl | rfl
            · rw [hq, if_neg (by omega), fields_words, hfx, hW]; rfl
            · rw [hq, if_pos rfl, fields_parts s c hsoft, hfy, hPq]; rfl
          have hsh : (nth [W, Pq] m []).length ≤ 200 ∧ totS (nth [W, Pq] m []) ≤ 2000 := by
            rcases (show m = 0 ∨ m = 1 by omega) with rfl | rfl
            · have := short_last hsx; rw [← hW] at this; exact ⟨by show W.length ≤ 200; omega, by show totS W ≤ 2000; omega⟩
            · have := short_last hsy; rw [← hPq] at this; exact ⟨by show Pq.length ≤ 200; omega, by show totS Pq ≤ 2000; omega⟩
          rw [hfb] at hok
          have okb := ok_short _ hsh.1 hsh.2
          rw [if_pos okb] at hok
          obtain ⟨rfl, fs, hfv, hfs⟩ := hok
          have hfi := fields_short okb
          have hfl : fs.length = (nth [W, Pq] m []).length := by rw [hfs.1, List.length_map]
          have hll5 := (hll.mono hJ4).mono hJ5
          refine l_q rfl rfl rfl (q_move rfl rfl) ?_
          refine l_q rfl rfl rfl (q_extract rfl rfl rfl) ?_
          refine l_q rfl rfl rfl (q_extract rfl rfl rfl) ?_
          refine l_q rfl rfl rfl (q_assign rfl rfl) ?_
          refine l_q rfl rfl rfl (q_assign rfl rfl) ?_
          refine l_nil ?_
          refine n_then ?_
          refine t_seq ?_
          refine t_seq ?_
          refine t_qreg ?_
          refine s_q rfl rfl rfl (q_move rfl rfl) ?_
          refine s_q rfl rfl rfl (q_neq rfl rfl rfl) ?_
          refine s_q rfl rfl rfl (q_move rfl rfl) ?_
          refine s_short 5 2 108 114 113 false _ _ rfl rfl rfl rfl rfl rfl (fun h114 => by
              try simp at h114
              refine s_g rfl rfl rfl rfl rfl rfl (q_move rfl rfl) ?_
              refine s_g rfl rfl rfl rfl rfl rfl ((by first | exact q_lenV rfl Try.underlying26 rfl | exact q_len rfl Try.underlying26 rfl (Sl.lenOf (n := 2) hsl2 rfl) | exact q_len rfl Try.underlying26 rfl (Sl.lenOf hfv (List.length_map _)) | exact q_len rfl Try.underlying26 rfl (Sl.lenOf hll5 (List.length_map _)))) ?_
              refine s_g rfl rfl rfl rfl rfl rfl (q_move rfl rfl) ?_
              refine s_g rfl rfl rfl rfl rfl rfl ((by first | exact q_lenV rfl Try.underlying36 rfl | exact q_len rfl Try.underlying36 rfl (Sl.lenOf (n := 2) hsl2 rfl) | exact q_len rfl Try.underlying36 rfl (Sl.lenOf hfv (List.length_map _)) | exact q_len rfl Try.underlying36 rfl (Sl.lenOf hll5 (List.length_map _)))) ?_
              refine s_g rfl rfl rfl rfl rfl rfl (q_neq rfl rfl rfl) ?_
              exact s_val rfl
            ) rfl rfl rfl (.inr ⟨rfl, rfl⟩) ?_
          refine s_done ?_
          refine n_then ?_
          refine t_cond rfl (fun hc10 => ?_) (fun hc10 => ?_)
          · skip
            exfalso
            simp [hfl] at hc10
          · skip
            refine t_skip ?_
            refine n_then ?_
            refine t_seq ?_
            refine t_region ?_
            refine l_q rfl rfl rfl (q_move rfl rfl) ?_
            refine l_q rfl rfl rfl ((by first | exact q_lenV rfl Try.underlying26 rfl | exact q_len rfl Try.underlying26 rfl (Sl.lenOf (n := 2) hsl2 rfl) | exact q_len rfl Try.underlying26 rfl (Sl.lenOf hfv (List.length_map _)) | exact q_len rfl Try.underlying26 rfl (Sl.lenOf hll5 (List.length_map _)))) ?_
            refine l_q rfl rfl rfl (q_move rfl rfl) ?_
            refine l_nil ?_
            refine n_then ?_
            refine t_block ?_
            refine t_loopE (ι := Nat) (fun zz => zz ≤ fs.length) (fun zz => fs.length - zz) (fun zz => [(117, .int .i64 (zz : Int))]) [(12, _), (88, _), (6, _), (5, _), (9, _), (7, _), (8, _), (0, _), (1, _), (17, _), (32, _), (36, _), (86, _), (87, _), (89, _), (10, _), (11, _), (13, _), (14, _), (114, _), (116, _)] (fun zz => J5) (fun zz => []) 0 ?_ (sub_cons rfl sub_nil) (sub_cons rfl (sub_cons rfl (sub_cons rfl (sub_cons rfl (sub_cons rfl (sub_cons rfl (sub_cons rfl (sub_cons rfl (sub_cons rfl (sub_cons rfl (sub_cons rfl (sub_cons rfl (sub_cons rfl (sub_cons rfl (sub_cons rfl (sub_cons rfl (sub_cons rfl (sub_cons rfl (sub_cons rfl (sub_cons rfl (sub_cons rfl sub_nil))))))))))))))))))))) (fun _ h => subC_st h) ?_
            · exact Nat.zero_le _
            rintro i hi
            try dsimp only at *
            refine t_seq ?_
            refine t_region ?_
            refine l_q rfl rfl rfl (q_lss rfl rfl rfl) ?_
            refine l_nil ?_
            refine n_then ?_
            refine t_seq ?_
            refine t_cond rfl (fun hc11 => ?_) (fun hc11 => ?_)
            · skip
              try simp at hc11
              refine t_skip ?_
              refine n_then ?_
              refine t_seq ?_
              refine t_block ?_
              refine t_seq ?_
              refine t_region ?_
              refine l_q rfl rfl rfl (q_move rfl rfl) ?_
              refine l_q rfl rfl rfl (q_assign rfl rfl) ?_
              refine l_nil ?_
              refine n_then ?_
              refine t_seq ?_
              refine t_qdraw mo (by kernel_rfl) (fun _ _ _ _ _ h => h) ?_
              refine s_q rfl rfl rfl (q_move rfl rfl) ?_
              refine s_q rfl rfl rfl (q_move rfl rfl) ?_
              refine s_q rfl rfl rfl ((by first | exact q_indexAddrVN rfl Try.underlying26 ti33 rfl rfl (by omega) | exact q_indexAddrN rfl Try.underlying26 ti33 rfl rfl (Sl.shape (n := 2) (hsl2.mono hJ) rfl) (by omega) | exact q_indexAddrN rfl Try.underlying26 ti33 rfl rfl (Sl.shape hfv (List.length_map _)) (by omega) | exact q_indexAddrN rfl Try.underlying26 ti33 rfl rfl (Sl.shape hll5 (List.length_map _)) (by omega) | exact q_indexAddrV rfl Try.underlying26 ti33 rfl rfl (by omega) | exact q_indexAddr rfl Try.underlying26 ti33 rfl rfl (Sl.shape (n := 2) (hsl2.mono hJ) rfl) (by omega) | exact q_indexAddr rfl Try.underlying26 ti33 rfl rfl (Sl.shape hfv (List.length_map _)) (by omega) | exact q_indexAddr rfl Try.underlying26 ti33 rfl rfl (Sl.shape hll5 (List.length_map _)) (by omega))) ?_
              refine s_q rfl rfl rfl ((by first | exact q_load_row rfl Try.underlying33 rfl rfl (by rfl) | exact q_load rfl Try.underlying33 rfl rfl (rd_row1 (i := m) (hsl2.mono hJ) (show m < 2 by omega)) | exact q_load rfl Try.underlying33 rfl rfl (rd_row1 (i := i) hfv (by omega)) | exact q_load rfl Try.underlying33 rfl rfl (rd_st (i := i) hll5 (by omega)))) ?_
              refine s_q rfl rfl rfl (quiet_call rfl rfl rfl Try.func11 (by kernel_rfl) rfl (fun w hw => text_pure _ (nth ((nth [W, Pq] m []).map plainF) i []) w (hfi _ (nth_mem (by rw [List.length_map]; omega))) ((hfs.at_ (i := i) (by rw [List.length_map]; omega)).mono hw.le))) ?_
              refine s_q rfl rfl rfl (q_move rfl rfl) ?_
              refine s_q rfl rfl rfl (q_move rfl rfl) ?_
              refine s_q rfl rfl rfl ((by first | exact q_indexAddrVN rfl Try.underlying36 ti9 rfl rfl (by omega) | exact q_indexAddrN rfl Try.underlying36 ti9 rfl rfl (Sl.shape (n := 2) (hsl2.mono hJ) rfl) (by omega) | exact q_indexAddrN rfl Try.underlying36 ti9 rfl rfl (Sl.shape hfv (List.length_map _)) (by omega) | exact q_indexAddrN rfl Try.underlying36 ti9 rfl rfl (Sl.shape hll5 (List.length_map _)) (by omega) | exact q_indexAddrV rfl Try.underlying36 ti9 rfl rfl (by omega) | exact q_indexAddr rfl Try.underlying36 ti9 rfl rfl (Sl.shape (n := 2) (hsl2.mono hJ) rfl) (by omega) | exact q_indexAddr rfl Try.underlying36 ti9 rfl rfl (Sl.shape hfv (List.length_map _)) (by omega) | exact q_indexAddr rfl Try.underlying36 ti9 rfl rfl (Sl.shape hll5 (List.length_map _)) (by omega))) ?_
              refine s_q rfl rfl rfl ((by first | exact q_load_row rfl Try.underlying9 rfl rfl (by rfl) | exact q_load rfl Try.underlying9 rfl rfl (rd_row1 (i := m) (hsl2.mono hJ) (show m < 2 by omega)) | exact q_load rfl Try.underlying9 rfl rfl (rd_row1 (i := i) hfv (by omega)) | exact q_load rfl Try.underlying9 rfl rfl (rd_st (i := i) hll5 (by omega)))) ?_
              refine s_q rfl rfl rfl (q_neq_str rfl rfl rfl) ?_
              refine s_done ?_
              refine n_then ?_
              refine t_cond rfl (fun hc12 => ?_) (fun hc12 => ?_)
              · skip
                exfalso
                rw [nth_map plainF [] [] (show i < (nth [W, Pq] m []).length by omega), chText_plainF] at hc12
                simp at hc12
              · skip
                refine t_skip ?_
                refine n_block ?_
                refine n_then ?_
                refine t_region ?_
                refine l_q rfl rfl rfl (q_add64 rfl rfl rfl (by omega)) ?_
                refine l_q rfl rfl rfl (q_move rfl rfl) ?_
                refine l_nil ?_
                refine n_roundE (i + 1) ?_ ?_ (sub_cons rfl sub_nil) (sub_cons rfl (sub_cons rfl (sub_cons rfl (sub_cons rfl (sub_cons rfl (sub_cons rfl (sub_cons rfl (sub_cons rfl (sub_cons rfl (sub_cons rfl (sub_cons rfl (sub_cons rfl (sub_cons rfl (sub_cons rfl (sub_cons rfl (sub_cons rfl (sub_cons rfl (sub_cons rfl (sub_cons rfl (sub_cons rfl (sub_cons rfl sub_nil))))))))))))))))))))) (fun _ h => by try dsimp only; exact subC_st h)
                · show i + 1 ≤ _; omega
                · show fs.length - (i + 1) < fs.length - i; omega
            · skip
              try simp at hc11
              refine t_exit ?_
              refine n_exit_then ?_
              refine n_exit_then ?_
              refine n_exit_block ?_
              refine n_block ?_
              refine n_then ?_
              refine t_region ?_
              refine l_q rfl rfl rfl (q_add64 rfl rfl rfl (by omega)) ?_
              refine l_q rfl rfl rfl (q_move rfl rfl) ?_
              refine l_nil ?_
              refine n_roundE ((m + 1, J5)) ?_ ?_ (sub_cons rfl sub_nil) (sub_cons rfl (sub_cons rfl (sub_cons rfl (sub_cons rfl (sub_cons rfl (sub_cons rfl (sub_cons rfl (sub_cons rfl (sub_cons rfl (sub_cons rfl (sub_cons rfl (sub_cons rfl sub_nil)))))))))))) (fun _ h => by try dsimp only; exact subC_st h)
              · exact ⟨(show m + 1 ≤ 2 by omega), (hJ.trans hJ4).trans hJ5⟩
              · show 2 - (m + 1) < 2 - m; omega
        · skip
          try simp at hc8
          refine t_exit ?_
          refine n_exit_then ?_
          refine n_exit_then ?_
          refine n_exit_block ?_
          refine n_then ?_
          refine t_seq ?_
          refine t_region ?_
          refine l_q rfl rfl rfl (q_assign rfl rfl) ?_
          refine l_nil ?_
          refine n_then ?_
          refine t_ret ?_
          refine n_ret1 rfl rfl (fun w' hw => ?_)
          -- leaf 1
          exact ⟨rfl, (hw.less (((hJ1.trans hJ2).trans hJ3).trans hJ)).below⟩
end Go.Tri
