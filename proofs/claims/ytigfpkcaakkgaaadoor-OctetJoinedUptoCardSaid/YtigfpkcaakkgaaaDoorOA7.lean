/-
  The statement: lines joined.
-/
import Derived.Test.YtigfpkcaakkgaaaDoorOA6
namespace Go.Tri
open Go.Proofs Go.RowKit
set_option maxRecDepth 10000 in
theorem octetJoined_pure (a b : List UInt8) (w : World) (ha : a.length ≤ 1048576) (hb : b.length ≤ 1048576) (hG : GW w) : Pure Tryd.prog 9 [str a, str b] w (.bool true) := by
  refine enterMN Tryd.func9 rfl Tryd.ntmps9 rfl (St.start w (look w) (Le.refl _)) ?_
  refine t_seq ?_
  refine t_region ?_
  refine l_q rfl rfl rfl (q_assign rfl rfl) ?_
  refine l_nil ?_
  refine n_then ?_
  refine t_seq ?_
  refine t_seq ?_
  refine t_region ?_
  refine l_q rfl rfl rfl (quiet_call rfl rfl rfl Tryd.func10 (by kernel_rfl) rfl ((fun w hw => awake_pure w (hG.le hw.le)))) ?_
  refine l_q rfl rfl rfl (q_not rfl rfl) ?_
  refine l_nil ?_
  refine n_then ?_
  refine t_cond rfl (fun hc0 => ?_) (fun hc0 => ?_)
  · skip
    try simp at hc0
  · skip
    try simp at hc0
    refine t_skip ?_
    refine n_then ?_
    refine t_seq ?_
    refine t_seq ?_
    refine t_region ?_
    refine l_q rfl rfl rfl (q_move rfl rfl) ?_
    refine l_q rfl rfl rfl (q_len_str rfl Tryd.underlying9 rfl) ?_
    refine l_q rfl rfl rfl (q_move rfl rfl) ?_
    refine l_q rfl rfl rfl (q_len_str rfl Tryd.underlying9 rfl) ?_
    refine l_q rfl rfl rfl (q_add64 rfl rfl rfl (by omega)) ?_
    refine l_q rfl rfl rfl (q_gtr rfl rfl rfl) ?_
    refine l_nil ?_
    refine n_then ?_
    refine t_cond rfl (fun hc1 => ?_) (fun hc1 => ?_)
    · skip
      try simp at hc1
      refine t_seq ?_
      refine t_region ?_
      refine l_q rfl rfl rfl (q_assign rfl rfl) ?_
      refine l_nil ?_
      refine n_then ?_
      refine t_ret ?_
      refine n_ret_then ?_
      refine n_np_ret ?_
      refine n_ret1M (bs := []) rfl rfl (fun w' hw => ?_)
      -- leaf 0
      exact ⟨rfl, hw.below⟩
    · skip
      try simp at hc1
      refine t_skip ?_
      refine n_then ?_
      refine t_cutE (ι := List UInt8) (fun zz => zz.length ≤ a.length + 1 ∧ (zz ≠ [] → nth zz (zz.length - 1) 0 = 10)) (fun zz => [(0, str zz)]) [(1, _), (11, _), (17, _)] (fun zz => look w) (fun zz => []) (sub_cons rfl (sub_cons rfl (sub_cons rfl sub_nil))) ?_ ?_
      · skip
        refine t_seq ?_
        refine t_qreg ?_
        refine s_q rfl rfl rfl (q_move rfl rfl) ?_
        refine s_q rfl rfl rfl (q_neq_str rfl rfl rfl) ?_
        refine s_q rfl rfl rfl (q_move rfl rfl) ?_
        refine s_and2 6 2 20 27 26 _ _ rfl rfl rfl rfl rfl rfl (fun h27 => by
            try simp at h27
            have ha0 : 0 < a.length := List.length_pos_iff.2 (by simpa using h27)
            refine s_g rfl rfl rfl rfl rfl rfl (q_move rfl rfl) ?_
            refine s_g rfl rfl rfl rfl rfl rfl (q_move rfl rfl) ?_
            refine s_g rfl rfl rfl rfl rfl rfl (q_len_str rfl Tryd.underlying9 rfl) ?_
            refine s_g rfl rfl rfl rfl rfl rfl (q_sub64 rfl rfl rfl (by omega)) ?_
            refine s_g rfl rfl rfl rfl rfl rfl ((by first | exact q_index_strN rfl Tryd.underlying9 rfl rfl (by omega) | exact q_index_str rfl Tryd.underlying9 rfl rfl (by omega))) ?_
            refine s_g rfl rfl rfl rfl rfl rfl (q_neq_u8c rfl rfl rfl rfl) ?_
            exact s_val rfl
          ) (wanted_n rfl) rfl rfl rfl ?_
        refine s_done ?_
        refine n_then ?_
        refine t_cond rfl (fun hc2 => ?_) (fun hc2 => ?_)
        · skip
          refine t_region ?_
          refine l_q rfl rfl rfl (q_move rfl rfl) ?_
          refine l_q rfl rfl rfl (q_cat rfl rfl rfl (by first | omega | (simp only [List.length_append, List.length_cons, List.length_nil, List.length_take, List.length_drop]; omega))) ?_
          refine l_q rfl rfl rfl (q_assign rfl rfl) ?_
          refine l_nil ?_
          refine n_cut (a ++ [10]) ?_ (sub_cons rfl sub_nil) (sub_cons rfl (sub_cons rfl (sub_cons rfl sub_nil))) (fun _ h => by try dsimp only; exact subC_st h)
          · try dsimp only
            refine ⟨by simp, fun _ => ?_⟩
            unfold nth; simp
        · skip
          refine t_skip ?_
          refine n_cut (a) ?_ (sub_cons rfl sub_nil) (sub_cons rfl (sub_cons rfl (sub_cons rfl sub_nil))) (fun _ h => by try dsimp only; exact subC_st h)
          · try dsimp only
            refine ⟨by omega, fun hne => ?_⟩
            have h2 : (decide (a ≠ []) && decide (nth a ((a.length : Int) - 1).toNat 0 ≠ 10)) = false := hc2
            rw [decide_eq_true hne, Bool.true_and, decide_eq_false_iff_not, Classical.not_not] at h2
            rw [show ((a.length : Int) - 1).toNat = a.length - 1 by omega] at h2
            exact h2
      rintro q ⟨hql, hqe⟩
      try dsimp only at *
      have hqb : (q ++ b).length = q.length + b.length := List.length_append
      have hlq := lines_len _ q (Nat.le_refl _)
      have hlb := lines_len _ b (Nat.le_refl _)
      have hlqb := lines_len _ (q ++ b) (Nat.le_refl _)
      have hjoin := lines_app _ q b (Nat.le_refl _) hqe
      refine t_seq ?_
      refine t_region ?_
      refine l_e rfl rfl rfl (e_alloc rfl ti36 rfl) ?_
      rintro _ _ _ ⟨b5, rfl, rfl, rfl⟩
      refine l_e rfl rfl rfl (e_alloc rfl ti36 rfl) ?_
      rintro _ _ _ ⟨b6, rfl, rfl, rfl⟩
      refine l_nil ?_
      refine n_then ?_
      refine t_seq ?_
      refine t_seq ?_
      refine t_region ?_
      refine l_q rfl rfl rfl (q_move rfl rfl) ?_
      refine l_q rfl rfl rfl (q_move rfl rfl) ?_
      refine l_q rfl rfl rfl (q_cat rfl rfl rfl (by first | omega | (simp only [List.length_append, List.length_cons, List.length_nil, List.length_take, List.length_drop]; omega))) ?_
      refine l_e rfl rfl rfl (eff_call rfl rfl rfl Tryd.func24 (by kernel_rfl) rfl (fun w hw => lines_calls (q ++ b) _ _ _ w hw)) ?_
      rintro _ J33 _ ⟨hJ33, rfl, cJ33, rfl, hcJ33⟩
      refine l_nil ?_
      refine n_then ?_
      refine t_block ?_
      refine t_range (γ := Value × List (List UInt8)) (lines_iter (q ++ b) cJ33 (by omega)) rfl rfl Tryd.func36 (by kernel_rfl) rfl (fun nn zz => zz.2 = (linesB (q ++ b)).take nn) (fun _ _ => False) [] (fun zz TT => (row b5 36 [zz.1] :: tvec 9 1 stC zz.1 zz.2 :: row b6 36 [.slice none 0 0] :: TT)) (fun _ _ => rfl) (fun zz => J33) [(0, _), (1, _), (11, _), (17, _), (5, _), (6, _), (33, _)] (sub_cons rfl (sub_cons rfl (sub_cons rfl (sub_cons rfl (sub_cons rfl (sub_cons rfl (sub_cons rfl sub_nil))))))) (.slice none 0 0, []) ?_ ?_ ?_ ?_ rfl ?_ ?_ ?_ (fun _ _ _ h => h.elim)
      · rfl
      · exact hcJ33
      · exact Le.refl _
      · exact fun _ h => subC_st (st_nilT 9 1 stC h)
      · exact stC_one
      · intro bl ready busy done dfr nn vs gg w0r FF hi hinv hrs hbz
        obtain ⟨v1, l1⟩ := gg
        have hl1 := hinv
        try dsimp only at *
        obtain ⟨hnl, rfl⟩ := stC_line hi
        have hll := congrArg List.length hl1
        rw [List.length_take] at hll
        refine t_region ?_
        refine l_q rfl rfl rfl (q_assign rfl rfl) ?_
        refine l_nil ?_
        refine n_begin (by rfl) hrs ?_
        refine t_block ?_
        refine t_region ?_
        refine l_q rfl rfl rfl (q_load_row rfl Tryd.underlying36 rfl rfl (by rfl)) ?_
        refine l_q rfl rfl rfl (q_move rfl rfl) ?_
        refine l_e rfl rfl rfl (e_buildSlice1 rfl Tryd.underlying36 ti9 rfl rfl rfl (by first | exact One.cells (by assumption) | exact One.cells hone | rfl) rfl) ?_
        rintro _ _ _ ⟨b37, rfl, rfl, rfl⟩
        refine l_e rfl rfl rfl (e_appendT (f := stC) (c := nth (linesB (q ++ b)) nn []) rfl Tryd.underlying36 ti9 rfl rfl rfl rfl rfl rfl rfl (by first | exact stC_ones _ | exact byC_ones _ | exact chC_ones _ | exact pcC_ones _ | simp [Value.oneCell', str, u8] | exact ones1 (by assumption)) (by simp only [maxLen]; omega) (by omega)) ?_
        rintro v38 _ _ ⟨rfl, rfl⟩
        refine l_one v38 (fun hone => ?_)
        refine l_e0 rfl rfl (e_storeS rfl ti36 rfl rfl (by first | exact ⟨rfl, rfl⟩ | assumption | exact hone) rfl (by first | (simp only [List.set_cons_succ, List.set_cons_zero]; rfl) | rfl)) ?_
        rintro _ _ _ ⟨rfl, rfl⟩
        refine l_nil ?_
        refine n_block ?_
        refine n_rnext (fun w' hw' => .inl ⟨rfl, ((v38, l1 ++ [nth (linesB (q ++ b)) nn []])), ?_, ?_, ?_⟩)
        · try dsimp only
          rw [hl1, take_nth [] hnl]
        · exact Le.refl _
        · try dsimp only
          exact subC_st hw'
      intro bd gg hinv hle
      obtain ⟨v1, l1⟩ := gg
      have hl1 := hinv
      try dsimp only at *
      rw [List.length_map, List.take_length] at hl1
      refine n_block ?_
      refine n_then ?_
      refine t_seq ?_
      refine t_seq ?_
      refine t_region ?_
      refine l_q rfl rfl rfl (q_move rfl rfl) ?_
      refine l_e rfl rfl rfl (eff_call rfl rfl rfl Tryd.func24 (by kernel_rfl) rfl (fun w hw => lines_calls q _ _ _ w hw)) ?_
      rintro _ J40 _ ⟨hJ40, rfl, cJ40, rfl, hcJ40⟩
      refine l_nil ?_
      refine n_then ?_
      refine t_block ?_
      refine t_range (γ := Value × List (List UInt8)) (lines_iter q cJ40 (by omega)) rfl rfl Tryd.func36 (by kernel_rfl) rfl (fun nn zz => zz.2 = (linesB q).take nn) (fun _ _ => False) [obj bd (.deferred (some []))] (fun zz TT => (row b6 36 [zz.1] :: tvec 9 1 stC zz.1 zz.2 :: row b5 36 [v1] :: tvec 9 1 stC v1 l1 :: TT)) (fun _ _ => rfl) (fun zz => J40) [(0, _), (1, _), (11, _), (17, _), (5, _), (6, _), (33, _), (40, _)] (sub_cons rfl (sub_cons rfl (sub_cons rfl (sub_cons rfl (sub_cons rfl (sub_cons rfl (sub_cons rfl (sub_cons rfl sub_nil)))))))) (.slice none 0 0, []) ?_ ?_ ?_ ?_ rfl ?_ ?_ ?_ (fun _ _ _ h => h.elim)
      · rfl
      · exact hcJ40
      · exact Le.refl _
      · exact fun _ h => subC_st (st_nilT 9 1 stC h)
      · exact stC_one
      · intro bl ready busy done dfr nn vs gg w0r FF hi hinv hrs hbz
        obtain ⟨v2, l2⟩ := gg
        have hl2 := hinv
        try dsimp only at *
        obtain ⟨hnl, rfl⟩ := stC_line hi
        have hll := congrArg List.length hl2
        rw [List.length_take] at hll
        refine t_region ?_
        refine l_q rfl rfl rfl (q_assign rfl rfl) ?_
        refine l_nil ?_
        refine n_begin (by rfl) hrs ?_
        refine t_block ?_
        refine t_region ?_
        refine l_q rfl rfl rfl (q_load_row rfl Tryd.underlying36 rfl rfl (by rfl)) ?_
        refine l_q rfl rfl rfl (q_move rfl rfl) ?_
        refine l_e rfl rfl rfl (e_buildSlice1 rfl Tryd.underlying36 ti9 rfl rfl rfl (by first | exact One.cells (by assumption) | exact One.cells hone | rfl) rfl) ?_
        rintro _ _ _ ⟨b44, rfl, rfl, rfl⟩
        refine l_e rfl rfl rfl (e_appendT (f := stC) (c := nth (linesB q) nn []) rfl Tryd.underlying36 ti9 rfl rfl rfl rfl rfl rfl rfl (by first | exact stC_ones _ | exact byC_ones _ | exact chC_ones _ | exact pcC_ones _ | simp [Value.oneCell', str, u8] | exact ones1 (by assumption)) (by simp only [maxLen]; omega) (by omega)) ?_
        rintro v45 _ _ ⟨rfl, rfl⟩
        refine l_one v45 (fun hone => ?_)
        refine l_e0 rfl rfl (e_storeS rfl ti36 rfl rfl (by first | exact ⟨rfl, rfl⟩ | assumption | exact hone) rfl (by first | (simp only [List.set_cons_succ, List.set_cons_zero]; rfl) | rfl)) ?_
        rintro _ _ _ ⟨rfl, rfl⟩
        refine l_nil ?_
        refine n_block ?_
        refine n_rnext (fun w' hw' => .inl ⟨rfl, ((v45, l2 ++ [nth (linesB q) nn []])), ?_, ?_, ?_⟩)
        · try dsimp only
          rw [hl2, take_nth [] hnl]
        · exact Le.refl _
        · try dsimp only
          exact subC_st hw'
      intro bd1 gg hinv hle
      obtain ⟨v2, l2⟩ := gg
      have hl2 := hinv
      try dsimp only at *
      rw [List.length_map, List.take_length] at hl2
      refine n_block ?_
      refine n_then ?_
      refine t_seq ?_
      refine t_seq ?_
      refine t_region ?_
      refine l_q rfl rfl rfl (q_move rfl rfl) ?_
      refine l_e rfl rfl rfl (eff_call rfl rfl rfl Tryd.func24 (by kernel_rfl) rfl (fun w hw => lines_calls b _ _ _ w hw)) ?_
      rintro _ J47 _ ⟨hJ47, rfl, cJ47, rfl, hcJ47⟩
      refine l_nil ?_
      refine n_then ?_
      refine t_block ?_
      refine t_range (γ := Value × List (List UInt8)) (lines_iter b cJ47 (by omega)) rfl rfl Tryd.func36 (by kernel_rfl) rfl (fun nn zz => zz.2 = linesB q ++ (linesB b).take nn) (fun _ _ => False) [obj bd1 (.deferred (some [])), obj bd (.deferred (some []))] (fun zz TT => (row b6 36 [zz.1] :: tvec 9 1 stC zz.1 zz.2 :: row b5 36 [v1] :: tvec 9 1 stC v1 l1 :: TT)) (fun _ _ => rfl) (fun zz => J47) [(0, _), (1, _), (11, _), (17, _), (5, _), (6, _), (33, _), (40, _), (47, _)] (sub_cons rfl (sub_cons rfl (sub_cons rfl (sub_cons rfl (sub_cons rfl (sub_cons rfl (sub_cons rfl (sub_cons rfl (sub_cons rfl sub_nil))))))))) (v2, l2) ?_ ?_ ?_ ?_ rfl ?_ ?_ ?_ (fun _ _ _ h => h.elim)
      · rw [hl2]; simp
      · exact hcJ47
      · exact Le.refl _
      · exact fun _ h => subC_st h
      · exact stC_one
      · intro bl ready busy done dfr nn vs gg w0r FF hi hinv hrs hbz
        obtain ⟨v3, l3⟩ := gg
        have hl3 := hinv
        try dsimp only at *
        obtain ⟨hnl, rfl⟩ := stC_line hi
        have hll := congrArg List.length hl3
        rw [List.length_append, List.length_take] at hll
        refine t_region ?_
        refine l_q rfl rfl rfl (q_assign rfl rfl) ?_
        refine l_nil ?_
        refine n_begin (by rfl) hrs ?_
        refine t_block ?_
        refine t_region ?_
        refine l_q rfl rfl rfl (q_load_row rfl Tryd.underlying36 rfl rfl (by rfl)) ?_
        refine l_q rfl rfl rfl (q_move rfl rfl) ?_
        refine l_e rfl rfl rfl (e_buildSlice1 rfl Tryd.underlying36 ti9 rfl rfl rfl (by first | exact One.cells (by assumption) | exact One.cells hone | rfl) rfl) ?_
        rintro _ _ _ ⟨b51, rfl, rfl, rfl⟩
        refine l_e rfl rfl rfl (e_appendT (f := stC) (c := nth (linesB b) nn []) rfl Tryd.underlying36 ti9 rfl rfl rfl rfl rfl rfl rfl (by first | exact stC_ones _ | exact byC_ones _ | exact chC_ones _ | exact pcC_ones _ | simp [Value.oneCell', str, u8] | exact ones1 (by assumption)) (by simp only [maxLen]; omega) (by omega)) ?_
        rintro v52 _ _ ⟨rfl, rfl⟩
        refine l_one v52 (fun hone => ?_)
        refine l_e0 rfl rfl (e_storeS rfl ti36 rfl rfl (by first | exact ⟨rfl, rfl⟩ | assumption | exact hone) rfl (by first | (simp only [List.set_cons_succ, List.set_cons_zero]; rfl) | rfl)) ?_
        rintro _ _ _ ⟨rfl, rfl⟩
        refine l_nil ?_
        refine n_block ?_
        refine n_rnext (fun w' hw' => .inl ⟨rfl, ((v52, l3 ++ [nth (linesB b) nn []])), ?_, ?_, ?_⟩)
        · try dsimp only
          rw [hl3, take_nth [] hnl, List.append_assoc]
        · exact Le.refl _
        · try dsimp only
          exact subC_st hw'
      intro bd2 gg hinv hle
      obtain ⟨v3, l3⟩ := gg
      have hl3 := hinv
      try dsimp only at *
      rw [List.length_map, List.take_length, ← hjoin] at hl3
      refine n_block ?_
      refine n_then ?_
      refine t_seq ?_
      subst hl1
      subst hl3
      refine t_freezeT (f := stC) (l := linesB (q ++ b)) v1 (fun _ => rfl) (fun Ja hJa hva => ?_)
      refine t_freezeT (f := stC) (l := linesB (q ++ b)) v3 (fun _ => rfl) (fun Jb hJb hvb => ?_)
      refine t_region ?_
      refine l_q rfl rfl rfl (q_load_row rfl Tryd.underlying36 rfl rfl (by rfl)) ?_
      refine l_q rfl rfl rfl (q_load_row rfl Tryd.underlying36 rfl rfl (by rfl)) ?_
      refine l_q rfl rfl rfl (quiet_call rfl rfl rfl Tryd.func25 (by kernel_rfl) rfl ((fun w hw => texts_pure _ _ (linesB (q ++ b)) (linesB (q ++ b)) w (by omega) (by omega) (hva.mono (hJb.trans (Le.of_st hw))) (hvb.mono (Le.of_st hw))))) ?_
      refine l_q rfl rfl rfl (q_assign rfl rfl) ?_
      refine l_nil ?_
      refine n_then ?_
      refine t_ret ?_
      refine n_np_ret ?_
      refine n_ret1M (bs := [bd2, bd1, bd]) rfl rfl (fun w' hw => ?_)
      -- leaf 1
      refine ⟨?_, (hw.less ((((hJ33.trans hJ40).trans hJ47).trans hJa).trans hJb)).below⟩
      simp
end Go.Tri
