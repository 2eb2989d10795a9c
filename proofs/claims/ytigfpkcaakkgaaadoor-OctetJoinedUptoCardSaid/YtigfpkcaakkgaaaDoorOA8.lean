/-
  The statement: lines.
-/
import Derived.Test.YtigfpkcaakkgaaaDoorOA7
namespace Go.Tri
open Go.Proofs Go.RowKit
set_option maxRecDepth 10000 in
theorem octetLines_pure (s : List UInt8) (stop : Int) (w : World) (hs : s.length ≤ 1048576) (hG : GW w) : Pure Tryd.prog 8 [str s, .int .i64 stop] w (.bool true) := by
  have hln := lines_len _ s (Nat.le_refl _)
  refine enterMN Tryd.func8 rfl Tryd.ntmps8 rfl (St.start w (look w) (Le.refl _)) ?_
  refine t_seq ?_
  refine t_region ?_
  refine l_e rfl rfl rfl (e_box rfl rfl (by first | exact One.cells (by assumption) | exact One.cells hwant.one | exact One.cells hone | rfl)) ?_
  rintro _ _ _ ⟨b2, rfl, rfl, rfl⟩
  refine l_e rfl rfl rfl (e_box rfl rfl (by first | exact One.cells (by assumption) | exact One.cells hwant.one | exact One.cells hone | rfl)) ?_
  rintro _ _ _ ⟨b3, rfl, rfl, rfl⟩
  refine l_e rfl rfl rfl (e_alloc rfl ti4 rfl) ?_
  rintro _ _ _ ⟨b4, rfl, rfl, rfl⟩
  refine l_nil ?_
  refine n_then ?_
  refine t_seq ?_
  refine t_seq ?_
  refine t_region ?_
  refine l_q rfl rfl rfl (quiet_call rfl rfl rfl Tryd.func10 (by kernel_rfl) rfl ((fun w hw => awake_pure w (hG.le hw.le)))) ?_
  refine l_q rfl rfl rfl (q_not rfl rfl) ?_
  refine l_nil ?_
  refine n_then ?_
  refine t_cond rfl (fun hc0 => ?_) (fun hc0 => ?_)
  · skip
    try simp at hc0
  · skip
    try simp at hc0
    refine t_skip ?_
    refine n_then ?_
    refine t_seq ?_
    refine t_seq ?_
    refine t_region ?_
    refine l_q rfl rfl rfl ((by first | exact q_load_row rfl Tryd.underlying9 rfl rfl (by rfl) | exact q_load rfl Tryd.underlying9 rfl rfl (rd_st (i := n) (hwant.mono hJ20) (by omega)))) ?_
    refine l_q rfl rfl rfl (q_len_str rfl Tryd.underlying9 rfl) ?_
    refine l_q rfl rfl rfl (q_gtr rfl rfl rfl) ?_
    refine l_nil ?_
    refine n_then ?_
    refine t_cond rfl (fun hc1 => ?_) (fun hc1 => ?_)
    · skip
      try simp at hc1
      refine t_seq ?_
      refine t_region ?_
      refine l_e0 rfl rfl (e_storeS rfl ti4 rfl rfl (by first | exact ⟨rfl, rfl⟩ | assumption | exact hwant.one | exact hone) rfl (by first | (simp only [List.set_cons_succ, List.set_cons_zero]; rfl) | rfl)) ?_
      rintro _ _ _ ⟨rfl, rfl⟩
      refine l_nil ?_
      refine n_then ?_
      refine t_ret ?_
      refine n_ret_then ?_
      refine n_np_ret ?_
      refine n_retGM (bs := []) (.inl rfl) rfl (by exact res_cell rfl Tryd.underlying4 rfl (by first | exact rd_rowI rfl | exact rd_st (i := n) (hwant.mono hJ20) (by omega)) (res_nil)) (fun w' hw => ?_)
      -- leaf 0
      exact ⟨rfl, hw.below⟩
    · skip
      try simp at hc1
      refine t_skip ?_
      refine n_then ?_
      refine t_seq ?_
      refine t_region ?_
      refine l_q rfl rfl rfl ((by first | exact q_load_row rfl Tryd.underlying9 rfl rfl (by rfl) | exact q_load rfl Tryd.underlying9 rfl rfl (rd_st (i := n) (hwant.mono hJ20) (by omega)))) ?_
      refine l_e rfl rfl rfl (eff_call rfl rfl rfl Tryd.func23 (by kernel_rfl) rfl (fun w hw => rlines_calls s _ _ _ w (by omega) hw)) ?_
      rintro v18 J18 _ ⟨hJ18, rfl, hwant⟩
      refine l_e rfl rfl rfl (e_alloc rfl ti36 rfl) ?_
      rintro _ _ _ ⟨b5, rfl, rfl, rfl⟩
      refine l_e0 rfl rfl (e_storeS rfl ti36 rfl rfl (by first | exact ⟨rfl, rfl⟩ | assumption | exact hwant.one | exact hone) rfl (by first | (simp only [List.set_cons_succ, List.set_cons_zero]; rfl) | rfl)) ?_
      rintro _ _ _ ⟨rfl, rfl⟩
      refine l_nil ?_
      refine n_then ?_
      refine t_seq ?_
      refine t_region ?_
      refine l_q rfl rfl rfl ((by first | exact q_load_row rfl Tryd.underlying9 rfl rfl (by rfl) | exact q_load rfl Tryd.underlying9 rfl rfl (rd_st (i := n) (hwant.mono hJ20) (by omega)))) ?_
      refine l_e rfl rfl rfl (eff_call rfl rfl rfl Tryd.func24 (by kernel_rfl) rfl (fun w hw => lines_calls s _ _ _ w hw)) ?_
      rintro _ J20 _ ⟨hJ20, rfl, cJ20, rfl, hcJ20⟩
      refine l_q rfl rfl rfl (q_assign rfl rfl) ?_
      refine l_nil ?_
      refine n_then ?_
      refine t_seq ?_
      refine t_seq ?_
      refine t_region ?_
      refine l_q rfl rfl rfl (q_move rfl rfl) ?_
      refine l_q rfl rfl rfl (q_eql_fnil rfl Tryd.underlying39 rfl) ?_
      refine l_nil ?_
      refine n_then ?_
      refine t_cond rfl (fun hc2 => ?_) (fun hc2 => ?_)
      · skip
        try simp at hc2
      · skip
        try simp at hc2
        refine t_skip ?_
        refine n_then ?_
        refine t_seq ?_
        refine t_region ?_
        refine l_e rfl rfl rfl (e_alloc rfl ti3 rfl) ?_
        rintro _ _ _ ⟨b7, rfl, rfl, rfl⟩
        refine l_e0 rfl rfl (e_storeS rfl ti3 rfl rfl (by first | exact ⟨rfl, rfl⟩ | assumption | exact hwant.one | exact hone) rfl (by first | (simp only [List.set_cons_succ, List.set_cons_zero]; rfl) | rfl)) ?_
        rintro _ _ _ ⟨rfl, rfl⟩
        refine l_nil ?_
        refine n_then ?_
        refine t_seq ?_
        refine t_seq ?_
        refine t_region ?_
        refine l_q rfl rfl rfl (q_move rfl rfl) ?_
        refine l_nil ?_
        refine n_then ?_
        refine t_block ?_
        refine t_range (γ := Nat) (lines_iter s cJ20 (by omega)) rfl rfl Tryd.func36 (by kernel_rfl) rfl (fun nn zz => zz = nn ∧ ∀ k : Nat, 1 ≤ k → k ≤ nn → (k : Int) ≠ stop) (fun cc zz => (cc = .exit 0 ∧ (zz : Int) = stop ∧ 1 ≤ zz ∧ zz ≤ (linesB s).length)) [] (fun zz TT => (row b7 3 [.int .i64 (zz : Int)] :: row b5 36 [v18] :: row b2 9 [str s] :: row b3 3 [.int .i64 stop] :: row b4 4 [.bool false] :: TT)) (fun _ _ => rfl) (fun zz => J20) [(0, _), (1, _), (2, _), (3, _), (4, _), (13, _), (16, _), (5, _), (6, _), (22, _), (7, _), (23, _)] (sub_cons rfl (sub_cons rfl (sub_cons rfl (sub_cons rfl (sub_cons rfl (sub_cons rfl (sub_cons rfl (sub_cons rfl (sub_cons rfl (sub_cons rfl (sub_cons rfl (sub_cons rfl sub_nil)))))))))))) 0 ?_ ?_ ?_ ?_ rfl ?_ ?_ ?_ ?_
        · exact ⟨rfl, fun k h1 h2 => by omega⟩
        · exact hcJ20
        · exact Le.refl _
        · exact fun _ h => subC_st h
        · exact stC_one
        · intro bl ready busy done dfr nn vs n w0r FF hi hinv hrs hbz
          obtain ⟨hn, hno⟩ := hinv
          try dsimp only at *
          obtain ⟨hnl, rfl⟩ := stC_line hi
          subst hn
          refine t_region ?_
          refine l_q rfl rfl rfl (q_assign rfl rfl) ?_
          refine l_nil ?_
          refine n_begin (by rfl) hrs ?_
          refine t_block ?_
          refine t_seq ?_
          refine t_seq ?_
          refine t_qreg ?_
          refine s_q rfl rfl rfl ((by first | exact q_load_row rfl Tryd.underlying3 rfl rfl (by rfl) | exact q_load rfl Tryd.underlying3 rfl rfl (rd_st (i := n) (hwant.mono hJ20) (by omega)))) ?_
          refine s_q rfl rfl rfl ((by first | exact q_load_row rfl Tryd.underlying36 rfl rfl (by rfl) | exact q_load rfl Tryd.underlying36 rfl rfl (rd_st (i := n) (hwant.mono hJ20) (by omega)))) ?_
          refine s_q rfl rfl rfl ((by first | exact q_lenV rfl Tryd.underlying36 rfl | exact q_len rfl Tryd.underlying36 rfl (Sl.lenOf (hwant.mono hJ20) (List.length_map _)) | exact q_len rfl Tryd.underlying36 rfl (Sl.lenOf hwant (List.length_map _)))) ?_
          refine s_q rfl rfl rfl (q_geq rfl rfl rfl) ?_
          refine s_q rfl rfl rfl (q_move rfl rfl) ?_
          refine s_or2 6 4 29 36 35 _ _ rfl rfl rfl rfl rfl rfl (fun h36 => by
              try simp at h36
              refine s_g rfl rfl rfl rfl rfl rfl (q_move rfl rfl) ?_
              refine s_g rfl rfl rfl rfl rfl rfl ((by first | exact q_load_row rfl Tryd.underlying36 rfl rfl (by rfl) | exact q_load rfl Tryd.underlying36 rfl rfl (rd_st (i := n) (hwant.mono hJ20) (by omega)))) ?_
              refine s_g rfl rfl rfl rfl rfl rfl ((by first | exact q_load_row rfl Tryd.underlying3 rfl rfl (by rfl) | exact q_load rfl Tryd.underlying3 rfl rfl (rd_st (i := n) (hwant.mono hJ20) (by omega)))) ?_
              refine s_g rfl rfl rfl rfl rfl rfl ((by first | exact q_indexAddrVN rfl Tryd.underlying36 ti9 rfl rfl (by omega) | exact q_indexAddrN rfl Tryd.underlying36 ti9 rfl rfl (Sl.shape (hwant.mono hJ20) (List.length_map _)) (by omega) | exact q_indexAddrV rfl Tryd.underlying36 ti9 rfl rfl (by omega) | exact q_indexAddr rfl Tryd.underlying36 ti9 rfl rfl (Sl.shape (hwant.mono hJ20) (List.length_map _)) (by omega))) ?_
              refine s_g rfl rfl rfl rfl rfl rfl ((by first | exact q_load_row rfl Tryd.underlying9 rfl rfl (by rfl) | exact q_load rfl Tryd.underlying9 rfl rfl (rd_st (i := n) (hwant.mono hJ20) (by omega)))) ?_
              refine s_g rfl rfl rfl rfl rfl rfl (q_neq_str rfl rfl rfl) ?_
              exact s_val rfl
            ) (wanted_n rfl) rfl rfl rfl ?_
          refine s_done ?_
          refine n_then ?_
          refine t_cond rfl (fun hc3 => ?_) (fun hc3 => ?_)
          · skip
            exfalso
            have h3 := hc3
            rw [Bool.or_eq_true, decide_eq_true_eq, decide_eq_true_eq] at h3
            rcases h3 with h3 | h3
            · omega
            · exact h3 rfl
          · skip
            refine t_skip ?_
            refine n_then ?_
            refine t_seq ?_
            refine t_region ?_
            refine l_q rfl rfl rfl ((by first | exact q_load_row rfl Tryd.underlying3 rfl rfl (by rfl) | exact q_load rfl Tryd.underlying3 rfl rfl (rd_st (i := n) (hwant.mono hJ20) (by omega)))) ?_
            refine l_q rfl rfl rfl (q_add64 rfl rfl rfl (by omega)) ?_
            refine l_e0 rfl rfl (e_storeS rfl ti3 rfl rfl (by first | exact ⟨rfl, rfl⟩ | assumption | exact hwant.one | exact hone) rfl (by first | (simp only [List.set_cons_succ, List.set_cons_zero]; rfl) | rfl)) ?_
            rintro _ _ _ ⟨rfl, rfl⟩
            refine l_heap (H' := row b7 3 [.int .i64 ((n + 1 : Nat) : Int)] :: _) ?_ (fun _ h => h)
            refine l_nil ?_
            refine n_then ?_
            refine t_seq ?_
            refine t_region ?_
            refine l_q rfl rfl rfl ((by first | exact q_load_row rfl Tryd.underlying3 rfl rfl (by rfl) | exact q_load rfl Tryd.underlying3 rfl rfl (rd_st (i := n) (hwant.mono hJ20) (by omega)))) ?_
            refine l_q rfl rfl rfl ((by first | exact q_load_row rfl Tryd.underlying3 rfl rfl (by rfl) | exact q_load rfl Tryd.underlying3 rfl rfl (rd_st (i := n) (hwant.mono hJ20) (by omega)))) ?_
            refine l_q rfl rfl rfl (q_eql rfl rfl rfl) ?_
            refine l_nil ?_
            refine n_then ?_
            refine t_cond rfl (fun hc4 => ?_) (fun hc4 => ?_)
            · skip
              simp only [decide_eq_true_eq, decide_eq_false_iff_not] at hc4
              refine t_exit ?_
              refine n_exit_other rfl ?_
              refine n_rexit (fun w' hw' => .inr ⟨rfl, .exit 0, (n + 1), ?_, ?_, ?_⟩)
              · try dsimp only
                exact ⟨rfl, by omega, by omega, by omega⟩
              · exact Le.refl _
              · try dsimp only
                exact subC_st hw'
            · skip
              simp only [decide_eq_true_eq, decide_eq_false_iff_not] at hc4
              refine t_skip ?_
              refine n_block ?_
              refine n_rnext (fun w' hw' => .inl ⟨rfl, (n + 1), ?_, ?_, ?_⟩)
              · try dsimp only
                refine ⟨by omega, fun k h1 h2 => ?_⟩
                rcases Nat.lt_succ_iff_lt_or_eq.1 (Nat.lt_succ_of_le h2) with h | rfl
                · exact hno k h1 (by omega)
                · intro e; apply hc4; omega
              · exact Le.refl _
              · try dsimp only
                exact subC_st hw'
        · skip
          intro bd n hinv hle
          obtain ⟨hn, hno⟩ := hinv
          try dsimp only at *
          rw [List.length_map] at hn hno
          have hmin : stop > 0 → (n : Int) = min stop ((linesB s).length : Int) := fun h0 => by
            have h2 : ¬ (stop ≤ ((linesB s).length : Int)) := fun h3 => hno stop.toNat (by omega) (by omega) (by omega)
            omega
          refine n_block ?_
          refine n_then ?_
          refine t_seq ?_
          refine t_seq ?_
          refine t_qreg ?_
          refine s_q rfl rfl rfl ((by first | exact q_load_row rfl Tryd.underlying3 rfl rfl (by rfl) | exact q_load rfl Tryd.underlying3 rfl rfl (rd_st (i := n) (hwant.mono hJ20) (by omega)))) ?_
          refine s_q rfl rfl rfl (q_gtr rfl rfl rfl) ?_
          refine s_q rfl rfl rfl (q_move rfl rfl) ?_
          refine s_and2 6 2 44 51 50 _ _ rfl rfl rfl rfl rfl rfl (fun h51 => by
              try simp at h51
              refine s_g rfl rfl rfl rfl rfl rfl ((by first | exact q_load_row rfl Tryd.underlying3 rfl rfl (by rfl) | exact q_load rfl Tryd.underlying3 rfl rfl (rd_st (i := n) (hwant.mono hJ20) (by omega)))) ?_
              refine s_g rfl rfl rfl rfl rfl rfl ((by first | exact q_load_row rfl Tryd.underlying3 rfl rfl (by rfl) | exact q_load rfl Tryd.underlying3 rfl rfl (rd_st (i := n) (hwant.mono hJ20) (by omega)))) ?_
              refine s_g rfl rfl rfl rfl rfl rfl ((by first | exact q_load_row rfl Tryd.underlying36 rfl rfl (by rfl) | exact q_load rfl Tryd.underlying36 rfl rfl (rd_st (i := n) (hwant.mono hJ20) (by omega)))) ?_
              refine s_g rfl rfl rfl rfl rfl rfl ((by first | exact q_lenV rfl Tryd.underlying36 rfl | exact q_len rfl Tryd.underlying36 rfl (Sl.lenOf (hwant.mono hJ20) (List.length_map _)) | exact q_len rfl Tryd.underlying36 rfl (Sl.lenOf hwant (List.length_map _)))) ?_
              refine s_g rfl rfl rfl rfl rfl rfl (q_min rfl rfl rfl) ?_
              refine s_g rfl rfl rfl rfl rfl rfl (q_neq rfl rfl rfl) ?_
              exact s_val rfl
            ) (wanted_n rfl) rfl rfl rfl ?_
          refine s_done ?_
          refine n_then ?_
          refine t_cond rfl (fun hc5 => ?_) (fun hc5 => ?_)
          · skip
            exfalso
            have h5 := hc5
            rw [Bool.and_eq_true, decide_eq_true_eq, decide_eq_true_eq] at h5
            exact h5.2 (hmin h5.1)
          · skip
            refine t_skip ?_
            refine n_then ?_
            refine t_seq ?_
            refine t_region ?_
            refine l_e rfl rfl rfl (e_alloc rfl ti36 rfl) ?_
            rintro _ _ _ ⟨b9, rfl, rfl, rfl⟩
            refine l_nil ?_
            refine n_then ?_
            refine t_seq ?_
            refine t_region ?_
            refine l_e rfl rfl rfl (e_alloc rfl ti9 rfl) ?_
            rintro _ _ _ ⟨b10, rfl, rfl, rfl⟩
            refine l_e0 rfl rfl (e_storeS rfl ti9 rfl rfl (by first | exact ⟨rfl, rfl⟩ | assumption | exact hwant.one | exact hone) rfl (by first | (simp only [List.set_cons_succ, List.set_cons_zero]; rfl) | rfl)) ?_
            rintro _ _ _ ⟨rfl, rfl⟩
            refine l_heap (H' := row b10 9 [str []] :: _) ?_ (fun _ h => h)
            refine l_nil ?_
            refine n_then ?_
            refine t_seq ?_
            refine t_seq ?_
            refine t_region ?_
            refine l_q rfl rfl rfl (q_move rfl rfl) ?_
            refine l_nil ?_
            refine n_then ?_
            refine t_block ?_
            refine t_range (γ := Value × List (List UInt8) × List UInt8) (lines_iter s cJ20 (by omega)) rfl rfl Tryd.func36 (by kernel_rfl) rfl (fun nn zz => zz.2.1 = (linesB s).take nn ∧ zz.2.2 = zz.2.1.flatten) (fun _ _ => False) [obj bd (.deferred (some []))] (fun zz TT => (row b9 36 [zz.1] :: row b10 9 [str zz.2.2] :: tvec 9 1 stC zz.1 zz.2.1 :: row b7 3 [.int .i64 (n : Int)] :: row b5 36 [v18] :: row b2 9 [str s] :: row b3 3 [.int .i64 stop] :: row b4 4 [.bool false] :: TT)) (fun _ _ => rfl) (fun zz => J20) [(0, _), (1, _), (2, _), (3, _), (4, _), (13, _), (16, _), (5, _), (6, _), (22, _), (7, _), (23, _), (51, _), (9, _), (10, _), (52, _)] (sub_cons rfl (sub_cons rfl (sub_cons rfl (sub_cons rfl (sub_cons rfl (sub_cons rfl (sub_cons rfl (sub_cons rfl (sub_cons rfl (sub_cons rfl (sub_cons rfl (sub_cons rfl (sub_cons rfl (sub_cons rfl (sub_cons rfl (sub_cons rfl sub_nil)))))))))))))))) (.slice none 0 0, [], []) ?_ ?_ ?_ ?_ rfl ?_ ?_ ?_ (fun _ _ _ h => h.elim)
            · exact ⟨rfl, rfl⟩
            · exact hcJ20
            · exact Le.refl _
            · exact fun _ h => subC_st (st_nilT 9 1 stC h)
            · exact stC_one
            · intro bl ready busy done dfr nn vs gg w0r FF hi hinv hrs hbz
              obtain ⟨v2, l2, t⟩ := gg
              obtain ⟨hl2, ht⟩ := hinv
              try dsimp only at *
              obtain ⟨hnl, rfl⟩ := stC_line hi
              have hll := congrArg List.length hl2
              rw [List.length_take] at hll
              have htl := lines_line_len hnl
              rw [← hl2, ← ht] at htl
              refine t_region ?_
              refine l_q rfl rfl rfl (q_assign rfl rfl) ?_
              refine l_nil ?_
              refine n_begin (by rfl) hrs ?_
              refine t_block ?_
              refine t_seq ?_
              refine t_region ?_
              refine l_q rfl rfl rfl ((by first | exact q_load_row rfl Tryd.underlying36 rfl rfl (by rfl) | exact q_load rfl Tryd.underlying36 rfl rfl (rd_st (i := n) (hwant.mono hJ20) (by omega)))) ?_
              refine l_q rfl rfl rfl (q_move rfl rfl) ?_
              refine l_e rfl rfl rfl (e_buildSlice1 rfl Tryd.underlying36 ti9 rfl rfl rfl (by first | exact One.cells (by assumption) | exact One.cells hwant.one | exact One.cells hone | rfl) rfl) ?_
              rintro _ _ _ ⟨b56, rfl, rfl, rfl⟩
              refine l_e rfl rfl rfl (e_appendT (f := stC) (c := nth (linesB s) nn []) rfl Tryd.underlying36 ti9 rfl rfl rfl rfl rfl rfl rfl (by first | exact stC_ones _ | exact byC_ones _ | exact chC_ones _ | exact pcC_ones _ | simp [Value.oneCell', str, u8] | exact ones1 (by assumption)) (by simp only [maxLen]; omega) (by omega)) ?_
              rintro v57 _ _ ⟨rfl, rfl⟩
              refine l_one v57 (fun hone => ?_)
              refine l_e0 rfl rfl (e_storeS rfl ti36 rfl rfl (by first | exact ⟨rfl, rfl⟩ | assumption | exact hwant.one | exact hone) rfl (by first | (simp only [List.set_cons_succ, List.set_cons_zero]; rfl) | rfl)) ?_
              rintro _ _ _ ⟨rfl, rfl⟩
              refine l_nil ?_
              refine n_then ?_
              refine t_seq ?_
              refine t_region ?_
              refine l_q rfl rfl rfl ((by first | exact q_load_row rfl Tryd.underlying9 rfl rfl (by rfl) | exact q_load rfl Tryd.underlying9 rfl rfl (rd_st (i := n) (hwant.mono hJ20) (by omega)))) ?_
              refine l_q rfl rfl rfl (q_move rfl rfl) ?_
              refine l_q rfl rfl rfl (q_cat rfl rfl rfl (by first | omega | (simp only [List.length_append, List.length_cons, List.length_nil, List.length_take, List.length_drop]; omega))) ?_
              refine l_e0 rfl rfl (e_storeS rfl ti9 rfl rfl (by first | exact ⟨rfl, rfl⟩ | assumption | exact hwant.one | exact hone) rfl (by first | (simp only [List.set_cons_succ, List.set_cons_zero]; rfl) | rfl)) ?_
              rintro _ _ _ ⟨rfl, rfl⟩
              refine l_nil ?_
              refine n_then ?_
              refine t_seq ?_
              refine t_region ?_
              refine l_q rfl rfl rfl ((by first | exact q_load_row rfl Tryd.underlying36 rfl rfl (by rfl) | exact q_load rfl Tryd.underlying36 rfl rfl (rd_st (i := n) (hwant.mono hJ20) (by omega)))) ?_
              refine l_q rfl rfl rfl ((by first | exact q_lenV rfl Tryd.underlying36 rfl | exact q_len rfl Tryd.underlying36 rfl (Sl.lenOf (hwant.mono hJ20) (List.length_map _)) | exact q_len rfl Tryd.underlying36 rfl (Sl.lenOf hwant (List.length_map _)))) ?_
              refine l_q rfl rfl rfl ((by first | exact q_load_row rfl Tryd.underlying9 rfl rfl (by rfl) | exact q_load rfl Tryd.underlying9 rfl rfl (rd_st (i := n) (hwant.mono hJ20) (by omega)))) ?_
              refine l_q rfl rfl rfl (q_len_str rfl Tryd.underlying9 rfl) ?_
              refine l_q rfl rfl rfl (q_gtr rfl rfl rfl) ?_
              refine l_nil ?_
              refine n_then ?_
              refine t_cond rfl (fun hc6 => ?_) (fun hc6 => ?_)
              · skip
                exfalso
                simp at hc6
                omega
              · skip
                refine t_skip ?_
                refine n_block ?_
                refine n_rnext (fun w' hw' => .inl ⟨rfl, ((v57, l2 ++ [nth (linesB s) nn []], t ++ nth (linesB s) nn [])), ?_, ?_, ?_⟩)
                · try dsimp only
                  exact ⟨by rw [hl2, take_nth [] hnl], by rw [ht]; simp⟩
                · exact Le.refl _
                · try dsimp only
                  exact subC_st hw'
            intro bd1 gg hinv hle
            obtain ⟨v2, l2, t⟩ := gg
            obtain ⟨hl2, ht⟩ := hinv
            try dsimp only at *
            rw [List.length_map, List.take_length] at hl2
            subst hl2
            subst ht
            refine n_block ?_
            refine n_then ?_
            refine t_seq ?_
            refine t_freezeT (f := stC) (l := linesB s) v2 (fun _ => rfl) (fun Ja hJa hva => ?_)
            refine t_region ?_
            refine l_quietHead 8 ?_
            refine s_q rfl rfl rfl ((by first | exact q_load_row rfl Tryd.underlying9 rfl rfl (by rfl) | exact q_load rfl Tryd.underlying9 rfl rfl (rd_st (i := n) (hwant.mono hJ20) (by omega)))) ?_
            refine s_q rfl rfl rfl ((by first | exact q_load_row rfl Tryd.underlying9 rfl rfl (by rfl) | exact q_load rfl Tryd.underlying9 rfl rfl (rd_st (i := n) (hwant.mono hJ20) (by omega)))) ?_
            refine s_q rfl rfl rfl (q_eql_str rfl rfl rfl) ?_
            refine s_q rfl rfl rfl (q_move rfl rfl) ?_
            refine s_and2 3 3 69 73 72 _ _ rfl rfl rfl rfl rfl rfl (fun h73 => by
                try simp at h73
                refine s_g rfl rfl rfl rfl rfl rfl ((by first | exact q_load_row rfl Tryd.underlying36 rfl rfl (by rfl) | exact q_load rfl Tryd.underlying36 rfl rfl (rd_st (i := n) (hwant.mono hJ20) (by omega)))) ?_
                refine s_g rfl rfl rfl rfl rfl rfl ((by first | exact q_load_row rfl Tryd.underlying36 rfl rfl (by rfl) | exact q_load rfl Tryd.underlying36 rfl rfl (rd_st (i := n) (hwant.mono hJ20) (by omega)))) ?_
                refine s_g rfl rfl rfl rfl rfl rfl (quiet_call rfl rfl rfl Tryd.func25 (by kernel_rfl) rfl ((fun w hw => texts_pure _ _ (linesB s) (linesB s) w (by omega) (by omega) (hva.mono (Le.of_st hw)) (hwant.mono ((hJ20.trans hJa).trans (Le.of_st hw)))))) ?_
                exact s_val rfl
              ) (wanted_n rfl) rfl rfl rfl ?_
            refine s_list ?_
            refine l_e0 rfl rfl (e_storeS rfl ti4 rfl rfl (by first | exact ⟨rfl, rfl⟩ | assumption | exact hwant.one | exact hone) rfl (by first | (simp only [List.set_cons_succ, List.set_cons_zero]; rfl) | rfl)) ?_
            rintro _ _ _ ⟨rfl, rfl⟩
            refine l_nil ?_
            refine n_then ?_
            refine t_ret ?_
            refine n_np_ret ?_
            refine n_retGM (bs := [bd1, bd]) (.inl rfl) rfl (by exact res_cell rfl Tryd.underlying4 rfl (by first | exact rd_rowI rfl | exact rd_st (i := n) (hwant.mono hJ20) (by omega)) (res_nil)) (fun w' hw => ?_)
            -- leaf 1
            refine ⟨?_, (hw.less (((hJ18.trans hJ20)).trans hJa)).below⟩
            rw [lines_flat _ s (Nat.le_refl _)]
            simp
            rfl
        · skip
          intro bd cc n hex hle
          obtain ⟨rfl, ⟨he1, he2, he3⟩⟩ := hex
          try dsimp only at *
          have hmin : stop > 0 → (n : Int) = min stop ((linesB s).length : Int) := fun h0 => by omega
          refine t_exit ?_
          refine n_exit_block ?_
          refine n_then ?_
          refine t_seq ?_
          refine t_seq ?_
          refine t_qreg ?_
          refine s_q rfl rfl rfl ((by first | exact q_load_row rfl Tryd.underlying3 rfl rfl (by rfl) | exact q_load rfl Tryd.underlying3 rfl rfl (rd_st (i := n) (hwant.mono hJ20) (by omega)))) ?_
          refine s_q rfl rfl rfl (q_gtr rfl rfl rfl) ?_
          refine s_q rfl rfl rfl (q_move rfl rfl) ?_
          refine s_and2 6 2 44 51 50 _ _ rfl rfl rfl rfl rfl rfl (fun h51 => by
              try simp at h51
              refine s_g rfl rfl rfl rfl rfl rfl ((by first | exact q_load_row rfl Tryd.underlying3 rfl rfl (by rfl) | exact q_load rfl Tryd.underlying3 rfl rfl (rd_st (i := n) (hwant.mono hJ20) (by omega)))) ?_
              refine s_g rfl rfl rfl rfl rfl rfl ((by first | exact q_load_row rfl Tryd.underlying3 rfl rfl (by rfl) | exact q_load rfl Tryd.underlying3 rfl rfl (rd_st (i := n) (hwant.mono hJ20) (by omega)))) ?_
              refine s_g rfl rfl rfl rfl rfl rfl ((by first | exact q_load_row rfl Tryd.underlying36 rfl rfl (by rfl) | exact q_load rfl Tryd.underlying36 rfl rfl (rd_st (i := n) (hwant.mono hJ20) (by omega)))) ?_
              refine s_g rfl rfl rfl rfl rfl rfl ((by first | exact q_lenV rfl Tryd.underlying36 rfl | exact q_len rfl Tryd.underlying36 rfl (Sl.lenOf (hwant.mono hJ20) (List.length_map _)) | exact q_len rfl Tryd.underlying36 rfl (Sl.lenOf hwant (List.length_map _)))) ?_
              refine s_g rfl rfl rfl rfl rfl rfl (q_min rfl rfl rfl) ?_
              refine s_g rfl rfl rfl rfl rfl rfl (q_neq rfl rfl rfl) ?_
              exact s_val rfl
            ) (wanted_n rfl) rfl rfl rfl ?_
          refine s_done ?_
          refine n_then ?_
          refine t_cond rfl (fun hc7 => ?_) (fun hc7 => ?_)
          · skip
            exfalso
            have h5 := hc7
            rw [Bool.and_eq_true, decide_eq_true_eq, decide_eq_true_eq] at h5
            exact h5.2 (hmin h5.1)
          · skip
            refine t_skip ?_
            refine n_then ?_
            refine t_seq ?_
            refine t_region ?_
            refine l_e rfl rfl rfl (e_alloc rfl ti36 rfl) ?_
            rintro _ _ _ ⟨b9, rfl, rfl, rfl⟩
            refine l_nil ?_
            refine n_then ?_
            refine t_seq ?_
            refine t_region ?_
            refine l_e rfl rfl rfl (e_alloc rfl ti9 rfl) ?_
            rintro _ _ _ ⟨b10, rfl, rfl, rfl⟩
            refine l_e0 rfl rfl (e_storeS rfl ti9 rfl rfl (by first | exact ⟨rfl, rfl⟩ | assumption | exact hwant.one | exact hone) rfl (by first | (simp only [List.set_cons_succ, List.set_cons_zero]; rfl) | rfl)) ?_
            rintro _ _ _ ⟨rfl, rfl⟩
            refine l_heap (H' := row b10 9 [str []] :: _) ?_ (fun _ h => h)
            refine l_nil ?_
            refine n_then ?_
            refine t_seq ?_
            refine t_seq ?_
            refine t_region ?_
            refine l_q rfl rfl rfl (q_move rfl rfl) ?_
            refine l_nil ?_
            refine n_then ?_
            refine t_block ?_
            refine t_range (γ := Value × List (List UInt8) × List UInt8) (lines_iter s cJ20 (by omega)) rfl rfl Tryd.func36 (by kernel_rfl) rfl (fun nn zz => zz.2.1 = (linesB s).take nn ∧ zz.2.2 = zz.2.1.flatten) (fun _ _ => False) [obj bd (.deferred (some []))] (fun zz TT => (row b9 36 [zz.1] :: row b10 9 [str zz.2.2] :: tvec 9 1 stC zz.1 zz.2.1 :: row b7 3 [.int .i64 (n : Int)] :: row b5 36 [v18] :: row b2 9 [str s] :: row b3 3 [.int .i64 stop] :: row b4 4 [.bool false] :: TT)) (fun _ _ => rfl) (fun zz => J20) [(0, _), (1, _), (2, _), (3, _), (4, _), (13, _), (16, _), (5, _), (6, _), (22, _), (7, _), (23, _), (51, _), (9, _), (10, _), (52, _)] (sub_cons rfl (sub_cons rfl (sub_cons rfl (sub_cons rfl (sub_cons rfl (sub_cons rfl (sub_cons rfl (sub_cons rfl (sub_cons rfl (sub_cons rfl (sub_cons rfl (sub_cons rfl (sub_cons rfl (sub_cons rfl (sub_cons rfl (sub_cons rfl sub_nil)))))))))))))))) (.slice none 0 0, [], []) ?_ ?_ ?_ ?_ rfl ?_ ?_ ?_ (fun _ _ _ h => h.elim)
            · exact ⟨rfl, rfl⟩
            · exact hcJ20
            · exact Le.refl _
            · exact fun _ h => subC_st (st_nilT 9 1 stC h)
            · exact stC_one
            · intro bl ready busy done dfr nn vs gg w0r FF hi hinv hrs hbz
              obtain ⟨v2, l2, t⟩ := gg
              obtain ⟨hl2, ht⟩ := hinv
              try dsimp only at *
              obtain ⟨hnl, rfl⟩ := stC_line hi
              have hll := congrArg List.length hl2
              rw [List.length_take] at hll
              have htl := lines_line_len hnl
              rw [← hl2, ← ht] at htl
              refine t_region ?_
              refine l_q rfl rfl rfl (q_assign rfl rfl) ?_
              refine l_nil ?_
              refine n_begin (by rfl) hrs ?_
              refine t_block ?_
              refine t_seq ?_
              refine t_region ?_
              refine l_q rfl rfl rfl ((by first | exact q_load_row rfl Tryd.underlying36 rfl rfl (by rfl) | exact q_load rfl Tryd.underlying36 rfl rfl (rd_st (i := n) (hwant.mono hJ20) (by omega)))) ?_
              refine l_q rfl rfl rfl (q_move rfl rfl) ?_
              refine l_e rfl rfl rfl (e_buildSlice1 rfl Tryd.underlying36 ti9 rfl rfl rfl (by first | exact One.cells (by assumption) | exact One.cells hwant.one | exact One.cells hone | rfl) rfl) ?_
              rintro _ _ _ ⟨b56, rfl, rfl, rfl⟩
              refine l_e rfl rfl rfl (e_appendT (f := stC) (c := nth (linesB s) nn []) rfl Tryd.underlying36 ti9 rfl rfl rfl rfl rfl rfl rfl (by first | exact stC_ones _ | exact byC_ones _ | exact chC_ones _ | exact pcC_ones _ | simp [Value.oneCell', str, u8] | exact ones1 (by assumption)) (by simp only [maxLen]; omega) (by omega)) ?_
              rintro v57 _ _ ⟨rfl, rfl⟩
              refine l_one v57 (fun hone => ?_)
              refine l_e0 rfl rfl (e_storeS rfl ti36 rfl rfl (by first | exact ⟨rfl, rfl⟩ | assumption | exact hwant.one | exact hone) rfl (by first | (simp only [List.set_cons_succ, List.set_cons_zero]; rfl) | rfl)) ?_
              rintro _ _ _ ⟨rfl, rfl⟩
              refine l_nil ?_
              refine n_then ?_
              refine t_seq ?_
              refine t_region ?_
              refine l_q rfl rfl rfl ((by first | exact q_load_row rfl Tryd.underlying9 rfl rfl (by rfl) | exact q_load rfl Tryd.underlying9 rfl rfl (rd_st (i := n) (hwant.mono hJ20) (by omega)))) ?_
              refine l_q rfl rfl rfl (q_move rfl rfl) ?_
              refine l_q rfl rfl rfl (q_cat rfl rfl rfl (by first | omega | (simp only [List.length_append, List.length_cons, List.length_nil, List.length_take, List.length_drop]; omega))) ?_
              refine l_e0 rfl rfl (e_storeS rfl ti9 rfl rfl (by first | exact ⟨rfl, rfl⟩ | assumption | exact hwant.one | exact hone) rfl (by first | (simp only [List.set_cons_succ, List.set_cons_zero]; rfl) | rfl)) ?_
              rintro _ _ _ ⟨rfl, rfl⟩
              refine l_nil ?_
              refine n_then ?_
              refine t_seq ?_
              refine t_region ?_
              refine l_q rfl rfl rfl ((by first | exact q_load_row rfl Tryd.underlying36 rfl rfl (by rfl) | exact q_load rfl Tryd.underlying36 rfl rfl (rd_st (i := n) (hwant.mono hJ20) (by omega)))) ?_
              refine l_q rfl rfl rfl ((by first | exact q_lenV rfl Tryd.underlying36 rfl | exact q_len rfl Tryd.underlying36 rfl (Sl.lenOf (hwant.mono hJ20) (List.length_map _)) | exact q_len rfl Tryd.underlying36 rfl (Sl.lenOf hwant (List.length_map _)))) ?_
              refine l_q rfl rfl rfl ((by first | exact q_load_row rfl Tryd.underlying9 rfl rfl (by rfl) | exact q_load rfl Tryd.underlying9 rfl rfl (rd_st (i := n) (hwant.mono hJ20) (by omega)))) ?_
              refine l_q rfl rfl rfl (q_len_str rfl Tryd.underlying9 rfl) ?_
              refine l_q rfl rfl rfl (q_gtr rfl rfl rfl) ?_
              refine l_nil ?_
              refine n_then ?_
              refine t_cond rfl (fun hc8 => ?_) (fun hc8 => ?_)
              · skip
                exfalso
                simp at hc8
                omega
              · skip
                refine t_skip ?_
                refine n_block ?_
                refine n_rnext (fun w' hw' => .inl ⟨rfl, ((v57, l2 ++ [nth (linesB s) nn []], t ++ nth (linesB s) nn [])), ?_, ?_, ?_⟩)
                · try dsimp only
                  exact ⟨by rw [hl2, take_nth [] hnl], by rw [ht]; simp⟩
                · exact Le.refl _
                · try dsimp only
                  exact subC_st hw'
            intro bd2 gg hinv hle
            obtain ⟨v2, l2, t⟩ := gg
            obtain ⟨hl2, ht⟩ := hinv
            try dsimp only at *
            rw [List.length_map, List.take_length] at hl2
            subst hl2
            subst ht
            refine n_block ?_
            refine n_then ?_
            refine t_seq ?_
            refine t_freezeT (f := stC) (l := linesB s) v2 (fun _ => rfl) (fun Ja hJa hva => ?_)
            refine t_region ?_
            refine l_quietHead 8 ?_
            refine s_q rfl rfl rfl ((by first | exact q_load_row rfl Tryd.underlying9 rfl rfl (by rfl) | exact q_load rfl Tryd.underlying9 rfl rfl (rd_st (i := n) (hwant.mono hJ20) (by omega)))) ?_
            refine s_q rfl rfl rfl ((by first | exact q_load_row rfl Tryd.underlying9 rfl rfl (by rfl) | exact q_load rfl Tryd.underlying9 rfl rfl (rd_st (i := n) (hwant.mono hJ20) (by omega)))) ?_
            refine s_q rfl rfl rfl (q_eql_str rfl rfl rfl) ?_
            refine s_q rfl rfl rfl (q_move rfl rfl) ?_
            refine s_and2 3 3 69 73 72 _ _ rfl rfl rfl rfl rfl rfl (fun h73 => by
                try simp at h73
                refine s_g rfl rfl rfl rfl rfl rfl ((by first | exact q_load_row rfl Tryd.underlying36 rfl rfl (by rfl) | exact q_load rfl Tryd.underlying36 rfl rfl (rd_st (i := n) (hwant.mono hJ20) (by omega)))) ?_
                refine s_g rfl rfl rfl rfl rfl rfl ((by first | exact q_load_row rfl Tryd.underlying36 rfl rfl (by rfl) | exact q_load rfl Tryd.underlying36 rfl rfl (rd_st (i := n) (hwant.mono hJ20) (by omega)))) ?_
                refine s_g rfl rfl rfl rfl rfl rfl (quiet_call rfl rfl rfl Tryd.func25 (by kernel_rfl) rfl ((fun w hw => texts_pure _ _ (linesB s) (linesB s) w (by omega) (by omega) (hva.mono (Le.of_st hw)) (hwant.mono ((hJ20.trans hJa).trans (Le.of_st hw)))))) ?_
                exact s_val rfl
              ) (wanted_n rfl) rfl rfl rfl ?_
            refine s_list ?_
            refine l_e0 rfl rfl (e_storeS rfl ti4 rfl rfl (by first | exact ⟨rfl, rfl⟩ | assumption | exact hwant.one | exact hone) rfl (by first | (simp only [List.set_cons_succ, List.set_cons_zero]; rfl) | rfl)) ?_
            rintro _ _ _ ⟨rfl, rfl⟩
            refine l_nil ?_
            refine n_then ?_
            refine t_ret ?_
            refine n_np_ret ?_
            refine n_retGM (bs := [bd2, bd]) (.inl rfl) rfl (by exact res_cell rfl Tryd.underlying4 rfl (by first | exact rd_rowI rfl | exact rd_st (i := n) (hwant.mono hJ20) (by omega)) (res_nil)) (fun w' hw => ?_)
            -- leaf 2
            refine ⟨?_, (hw.less (((hJ18.trans hJ20)).trans hJa)).below⟩
            rw [lines_flat _ s (Nat.le_refl _)]
            simp
            rfl
end Go.Tri
