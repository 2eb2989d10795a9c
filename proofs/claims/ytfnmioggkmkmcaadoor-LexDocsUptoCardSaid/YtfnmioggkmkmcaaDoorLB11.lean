/-
  The statement: LexDocs.
-/
import Derived.Test.YtfnmioggkmkmcaaDoorLB2
import Derived.Test.YtfnmioggkmkmcaaDoorLB10
import Derived.Test.YtfnmioggkmkmcaaDoorPLex11
namespace Go.Tri
open Go.Proofs Go.RowKit
set_option maxRecDepth 10000 in
theorem lexDocs_pure (a : List UInt8) (w : World) (ha : a.length ≤ 1048576) (hG : EnvI (look w)) : Pure Tryd.prog 5 [str a] w (.bool true) := by
  refine enterMN Tryd.func5 rfl Tryd.ntmps5 rfl (St.start w (look w) (Le.refl _)) ?_
  refine t_seq ?_
  refine t_region ?_
  refine l_e rfl rfl rfl (e_alloc rfl ti4 rfl) ?_
  rintro _ _ _ ⟨b2, rfl, rfl, rfl⟩
  refine l_nil ?_
  refine n_then ?_
  refine t_seq ?_
  refine t_seq ?_
  refine t_region ?_
  refine l_q rfl rfl rfl (quiet_call rfl rfl rfl Tryd.func9 (by kernel_rfl) rfl ((fun w hw => awake_pure w (hG.mono hw.le)))) ?_
  refine l_q rfl rfl rfl (q_not rfl rfl) ?_
  refine l_nil ?_
  refine n_then ?_
  refine t_cond rfl (fun hc0 => ?_) (fun hc0 => ?_)
  · skip
    try simp at hc0
  · skip
    try simp at hc0
    refine t_skip ?_
    refine n_then ?_
    refine t_seq ?_
    refine t_seq ?_
    refine t_region ?_
    refine l_q rfl rfl rfl (q_move rfl rfl) ?_
    refine l_q rfl rfl rfl (q_len_str rfl Tryd.underlying9 rfl) ?_
    refine l_q rfl rfl rfl (q_gtr rfl rfl rfl) ?_
    refine l_nil ?_
    refine n_then ?_
    refine t_cond rfl (fun hc1 => ?_) (fun hc1 => ?_)
    · skip
      try simp at hc1
      refine t_seq ?_
      refine t_region ?_
      refine l_e0 rfl rfl (e_storeS rfl ti4 rfl rfl (by first | exact ⟨rfl, rfl⟩ | assumption) rfl (by first | (simp only [List.set_cons_succ, List.set_cons_zero]; rfl) | rfl)) ?_
      rintro _ _ _ ⟨rfl, rfl⟩
      refine l_nil ?_
      refine n_then ?_
      refine t_ret ?_
      refine n_ret_then ?_
      refine n_np_ret ?_
      refine n_retGM (bs := []) (.inl rfl) rfl (by exact res_cell rfl Tryd.underlying4 rfl (by first | exact rd_rowI rfl | exact rd_tokf (i := 2) (j := 3) hvl36 (by omega) rfl | exact rd_tokf (i := 2) (j := 4) hvl36 (by omega) rfl | exact rd_tokf (i := 3) (j := 3) hvl36 (by omega) rfl) (res_nil)) (fun w' hw => ?_)
      -- leaf 0
      exact ⟨rfl, hw.below⟩
    · skip
      try simp at hc1
      refine t_skip ?_
      refine n_then ?_
      refine t_cutE (ι := List UInt8) (fun zz => zz.length ≤ a.length + 1 ∧ (zz ≠ [] → nth zz (zz.length - 1) 0 = 10)) (fun zz => [(0, str zz)]) [(2, _), (10, _), (13, _)] (fun zz => look w) (fun zz => [row b2 4 [.bool false]]) (sub_cons rfl (sub_cons rfl (sub_cons rfl sub_nil))) ?_ ?_
      · skip
        refine t_seq ?_
        refine t_qreg ?_
        refine s_q rfl rfl rfl (q_move rfl rfl) ?_
        refine s_q rfl rfl rfl (q_neq_str rfl rfl rfl) ?_
        refine s_q rfl rfl rfl (q_move rfl rfl) ?_
        refine s_and2 6 2 16 23 22 _ _ rfl rfl rfl rfl rfl rfl (fun h23 => by
            try simp at h23
            have ha0 : 0 < a.length := List.length_pos_iff.2 (by simpa using h23)
            refine s_g rfl rfl rfl rfl rfl rfl (q_move rfl rfl) ?_
            refine s_g rfl rfl rfl rfl rfl rfl (q_move rfl rfl) ?_
            refine s_g rfl rfl rfl rfl rfl rfl (q_len_str rfl Tryd.underlying9 rfl) ?_
            refine s_g rfl rfl rfl rfl rfl rfl (q_sub64 rfl rfl rfl (by omega)) ?_
            refine s_g rfl rfl rfl rfl rfl rfl ((by first | exact q_index_strN rfl Tryd.underlying9 rfl rfl (by omega) | exact q_index_str rfl Tryd.underlying9 rfl rfl (by omega))) ?_
            refine s_g rfl rfl rfl rfl rfl rfl (q_neq_u8c rfl rfl rfl rfl) ?_
            exact s_val rfl
          ) (wanted_n rfl) rfl rfl rfl ?_
        refine s_done ?_
        refine n_then ?_
        refine t_cond rfl (fun hc2 => ?_) (fun hc2 => ?_)
        · skip
          refine t_region ?_
          refine l_q rfl rfl rfl (q_move rfl rfl) ?_
          refine l_q rfl rfl rfl (q_cat rfl rfl rfl (by first | omega | (simp only [List.length_append, List.length_cons, List.length_nil, List.length_take, List.length_drop]; omega))) ?_
          refine l_q rfl rfl rfl (q_assign rfl rfl) ?_
          refine l_nil ?_
          refine n_cut (a ++ [10]) ?_ (sub_cons rfl sub_nil) (sub_cons rfl (sub_cons rfl (sub_cons rfl sub_nil))) (fun _ h => by try dsimp only; exact subC_st h)
          · try dsimp only
            refine ⟨by simp, fun _ => ?_⟩
            unfold nth; simp
        · skip
          refine t_skip ?_
          refine n_cut (a) ?_ (sub_cons rfl sub_nil) (sub_cons rfl (sub_cons rfl (sub_cons rfl sub_nil))) (fun _ h => by try dsimp only; exact subC_st h)
          · try dsimp only
            refine ⟨by omega, fun hne => ?_⟩
            have h2 : (decide (a ≠ []) && decide (nth a ((a.length : Int) - 1).toNat 0 ≠ 10)) = false := hc2
            rw [decide_eq_true hne, Bool.true_and, decide_eq_false_iff_not, Classical.not_not] at h2
            rw [show ((a.length : Int) - 1).toNat = a.length - 1 by omega] at h2
            exact h2
      rintro q ⟨hql, hqe⟩
      try dsimp only at *
      have hEN : q ≠ [] → EndNL q := fun h => ⟨h, hqe h⟩
      refine t_seq ?_
      refine t_seq ?_
      refine t_region ?_
      refine l_q rfl rfl rfl (q_move rfl rfl) ?_
      refine l_e rfl rfl rfl (eff_call rfl rfl rfl Tryd.func11 (by kernel_rfl) rfl (fun w hw => lines_calls q _ _ _ w hw)) ?_
      rintro _ J27 _ ⟨hJ27, rfl, c27, rfl, hc27⟩
      refine l_nil ?_
      refine n_then ?_
      refine t_block ?_
      refine t_range (γ := Bool) (lines_iter q c27 (by omega)) rfl rfl Tryd.func20 (by kernel_rfl) rfl (fun nn zz => zz = false ∧ ∀ k, k < nn → nth (linesB q) k [] ≠ dEnd ++ [10]) (fun cc zz => (cc = .ret ∧ zz = true)) [] (fun zz TT => (row b2 4 [.bool zz] :: TT)) (fun _ _ => rfl) (fun zz => J27) [(0, _), (2, _), (10, _), (13, _), (27, _)] (sub_cons rfl (sub_cons rfl (sub_cons rfl (sub_cons rfl (sub_cons rfl sub_nil))))) false ?_ ?_ ?_ ?_ rfl ?_ ?_ ?_ ?_
      · exact ⟨rfl, fun k h => absurd h (Nat.not_lt_zero _)⟩
      · exact hc27
      · exact Le.refl _
      · exact fun _ h => subC_st h
      · exact stC_one
      · intro bl ready busy done dfr nn vs rb w0r FF hi hinv hrs hbz
        obtain ⟨hrb, hno⟩ := hinv
        try dsimp only at *
        obtain ⟨hnl, rfl⟩ := stC_line hi
        subst hrb
        refine t_region ?_
        refine l_q rfl rfl rfl (q_assign rfl rfl) ?_
        refine l_nil ?_
        refine n_begin (by rfl) hrs ?_
        refine t_block ?_
        refine t_seq ?_
        refine t_region ?_
        refine l_q rfl rfl rfl (q_move rfl rfl) ?_
        refine l_q rfl rfl rfl (q_eql_str rfl rfl rfl) ?_
        refine l_nil ?_
        refine n_then ?_
        refine t_cond rfl (fun hc3 => ?_) (fun hc3 => ?_)
        · skip
          try simp at hc3
          refine t_seq ?_
          refine t_region ?_
          refine l_e0 rfl rfl (e_storeS rfl ti4 rfl rfl (by first | exact ⟨rfl, rfl⟩ | assumption) rfl (by first | (simp only [List.set_cons_succ, List.set_cons_zero]; rfl) | rfl)) ?_
          rintro _ _ _ ⟨rfl, rfl⟩
          refine l_nil ?_
          refine n_then ?_
          refine t_ret ?_
          refine n_ret_block ?_
          refine n_rret (fun w' hw' => .inr ⟨rfl, .ret, (true), ?_, ?_, ?_⟩)
          · try dsimp only
            exact ⟨rfl, rfl⟩
          · exact Le.refl _
          · try dsimp only
            exact subC_st hw'
        · skip
          try simp at hc3
          refine t_skip ?_
          refine n_block ?_
          refine n_rnext (fun w' hw' => .inl ⟨rfl, (false), ?_, ?_, ?_⟩)
          · try dsimp only
            refine ⟨rfl, fun k hk => ?_⟩
            rcases Nat.lt_succ_iff_lt_or_eq.1 hk with h | rfl
            · exact hno k h
            · have h4 := hc3
              simpa [dEnd] using h4
          · exact Le.refl _
          · try dsimp only
            exact subC_st hw'
      · skip
        intro bd rb hinv hle
        obtain ⟨hrb, hno⟩ := hinv
        try dsimp only at *
        rw [List.length_map] at hno
        subst hrb
        have hLn : ∀ l ∈ linesB q, l ≠ dEnd ++ [10] := fun l hl => by
          obtain ⟨k, hk, rfl⟩ := List.getElem_of_mem hl
          rw [← nth_eq (d := []) hk]
          exact hno k hk
        refine n_block ?_
        refine n_then ?_
        refine t_seq ?_
        refine t_region ?_
        refine l_q rfl rfl rfl (q_move rfl rfl) ?_
        refine l_q rfl rfl rfl (q_cat rfl rfl rfl (by first | omega | (simp only [List.length_append, List.length_cons, List.length_nil, List.length_take, List.length_drop]; omega))) ?_
        refine l_q rfl rfl rfl (q_cat rfl rfl rfl (by first | omega | (simp only [List.length_append, List.length_cons, List.length_nil, List.length_take, List.length_drop]; omega))) ?_
        refine l_q rfl rfl rfl (q_assign rfl rfl) ?_
        refine l_nil ?_
        refine n_then ?_
        refine t_seq ?_
        refine t_region ?_
        refine l_q rfl rfl rfl (q_move rfl rfl) ?_
        refine l_e rfl rfl rfl (eff_call rfl rfl rfl Tryd.func10 (by kernel_rfl) rfl (fun w hw => line_calls (dHead ++ q ++ dTail) (0) _ _ _ w (by have h9 : (dHead ++ q ++ dTail).length = 18 + q.length + 12 := (by rw [List.length_append, List.length_append]; rfl); omega) (hG.mono hJ27) hw)) ?_
        rintro _ J36 _ ⟨hJ36, rfl, vl36, rfl, hvl36⟩
        rw [line_docs q (by omega) hEN hLn] at hvl36 ⊢
        dsimp only at hvl36
        have hdl : (dOut q).length = 5 := rfl
        refine l_q rfl rfl rfl (q_move rfl rfl) ?_
        refine l_q rfl rfl rfl (q_extract rfl rfl rfl) ?_
        refine l_q rfl rfl rfl (q_extract rfl rfl rfl) ?_
        refine l_q rfl rfl rfl (q_extract rfl rfl rfl) ?_
        refine l_q rfl rfl rfl (q_extract rfl rfl rfl) ?_
        refine l_q rfl rfl rfl (q_assign rfl rfl) ?_
        refine l_q rfl rfl rfl (q_assign rfl rfl) ?_
        refine l_q rfl rfl rfl (q_assign rfl rfl) ?_
        refine l_q rfl rfl rfl (q_assign rfl rfl) ?_
        refine l_nil ?_
        refine n_then ?_
        refine t_seq ?_
        have hl9 : ([99, 97, 116, 32, 60, 60, 39, 84, 72, 69, 32, 69, 78, 68, 39, 32, 120, 10] ++ q ++ [84, 72, 69, 32, 69, 78, 68, 10, 114, 101, 115, 116]).length = 18 + q.length + 12 := (by rw [List.length_append, List.length_append]; rfl)
        refine t_region ?_
        refine l_quietHead 9 ?_
        refine s_q rfl rfl rfl (q_move rfl rfl) ?_
        refine s_q rfl rfl rfl (q_eql rfl rfl rfl) ?_
        refine s_q rfl rfl rfl (q_move rfl rfl) ?_
        refine s_and2 5 2 43 49 48 _ _ rfl rfl rfl rfl rfl rfl (fun h49 => by
            try simp at h49
            refine s_g rfl rfl rfl rfl rfl rfl (q_move rfl rfl) ?_
            refine s_g rfl rfl rfl rfl rfl rfl (q_move rfl rfl) ?_
            refine s_g rfl rfl rfl rfl rfl rfl (q_len_str rfl Tryd.underlying9 rfl) ?_
            refine s_g rfl rfl rfl rfl rfl rfl (q_sub64 rfl rfl rfl (by omega)) ?_
            refine s_g rfl rfl rfl rfl rfl rfl (q_eql rfl rfl rfl) ?_
            exact s_val rfl
          ) (wanted_n rfl) rfl rfl rfl ?_
        refine s_list ?_
        refine l_quietHead 5 ?_
        refine s_q rfl rfl rfl (q_move rfl rfl) ?_
        refine s_and2 3 9 50 54 53 _ _ rfl rfl rfl rfl rfl rfl (fun h54 => by
            try simp at h54
            refine s_g rfl rfl rfl rfl rfl rfl (q_move rfl rfl) ?_
            refine s_g rfl rfl rfl rfl rfl rfl ((by first | exact q_lenV rfl Tryd.underlying23 rfl | exact q_len rfl Tryd.underlying23 rfl (Sl.lenOf hvl36 (List.length_map _)))) ?_
            refine s_g rfl rfl rfl rfl rfl rfl (q_eql rfl rfl rfl) ?_
            exact s_val rfl
          ) (wanted_n rfl) rfl rfl rfl ?_
        refine s_list ?_
        refine l_quietHead 8 ?_
        refine s_q rfl rfl rfl (q_move rfl rfl) ?_
        refine s_and2 6 14 55 62 61 _ _ rfl rfl rfl rfl rfl rfl (fun h62 => by
            try simp at h62
            refine s_g rfl rfl rfl rfl rfl rfl (q_move rfl rfl) ?_
            refine s_g rfl rfl rfl rfl rfl rfl ((by first | exact q_indexAddrVN rfl Tryd.underlying23 ti28 rfl rfl (by omega) | exact q_indexAddrN rfl Tryd.underlying23 ti28 rfl rfl (Sl.shape hvl36 (List.length_map _)) (by omega) | exact q_indexAddrV rfl Tryd.underlying23 ti28 rfl rfl (by omega) | exact q_indexAddr rfl Tryd.underlying23 ti28 rfl rfl (Sl.shape hvl36 (List.length_map _)) (by omega))) ?_
            refine s_g rfl rfl rfl rfl rfl rfl (q_fieldAddr rfl Tryd.underlying28 rfl rfl ti9 rfl rfl) ?_
            refine s_g rfl rfl rfl rfl rfl rfl ((by first | exact q_load_row rfl Tryd.underlying9 rfl rfl (by rfl) | exact q_load rfl Tryd.underlying9 rfl rfl (rd_tokf (i := 2) (j := 3) hvl36 (by omega) rfl) | exact q_load rfl Tryd.underlying9 rfl rfl (rd_tokf (i := 2) (j := 4) hvl36 (by omega) rfl) | exact q_load rfl Tryd.underlying9 rfl rfl (rd_tokf (i := 3) (j := 3) hvl36 (by omega) rfl))) ?_
            refine s_g rfl rfl rfl rfl rfl rfl (q_move rfl rfl) ?_
            refine s_g rfl rfl rfl rfl rfl rfl (q_eql_str rfl rfl rfl) ?_
            exact s_val rfl
          ) (wanted_n rfl) rfl rfl rfl ?_
        refine s_list ?_
        refine l_quietHead 6 ?_
        refine s_q rfl rfl rfl (q_move rfl rfl) ?_
        refine s_and2 4 22 63 68 67 _ _ rfl rfl rfl rfl rfl rfl (fun h68 => by
            try simp at h68
            refine s_g rfl rfl rfl rfl rfl rfl (q_move rfl rfl) ?_
            refine s_g rfl rfl rfl rfl rfl rfl ((by first | exact q_indexAddrVN rfl Tryd.underlying23 ti28 rfl rfl (by omega) | exact q_indexAddrN rfl Tryd.underlying23 ti28 rfl rfl (Sl.shape hvl36 (List.length_map _)) (by omega) | exact q_indexAddrV rfl Tryd.underlying23 ti28 rfl rfl (by omega) | exact q_indexAddr rfl Tryd.underlying23 ti28 rfl rfl (Sl.shape hvl36 (List.length_map _)) (by omega))) ?_
            refine s_g rfl rfl rfl rfl rfl rfl (q_fieldAddr rfl Tryd.underlying28 rfl rfl ti4 rfl rfl) ?_
            refine s_g rfl rfl rfl rfl rfl rfl ((by first | exact q_load_row rfl Tryd.underlying4 rfl rfl (by rfl) | exact q_load rfl Tryd.underlying4 rfl rfl (rd_tokf (i := 2) (j := 3) hvl36 (by omega) rfl) | exact q_load rfl Tryd.underlying4 rfl rfl (rd_tokf (i := 2) (j := 4) hvl36 (by omega) rfl) | exact q_load rfl Tryd.underlying4 rfl rfl (rd_tokf (i := 3) (j := 3) hvl36 (by omega) rfl))) ?_
            exact s_val rfl
          ) (wanted_n rfl) rfl rfl rfl ?_
        refine s_list ?_
        refine l_quietHead 7 ?_
        refine s_q rfl rfl rfl (q_move rfl rfl) ?_
        refine s_and2 5 28 69 75 74 _ _ rfl rfl rfl rfl rfl rfl (fun h75 => by
            try simp at h75
            refine s_g rfl rfl rfl rfl rfl rfl (q_move rfl rfl) ?_
            refine s_g rfl rfl rfl rfl rfl rfl ((by first | exact q_indexAddrVN rfl Tryd.underlying23 ti28 rfl rfl (by omega) | exact q_indexAddrN rfl Tryd.underlying23 ti28 rfl rfl (Sl.shape hvl36 (List.length_map _)) (by omega) | exact q_indexAddrV rfl Tryd.underlying23 ti28 rfl rfl (by omega) | exact q_indexAddr rfl Tryd.underlying23 ti28 rfl rfl (Sl.shape hvl36 (List.length_map _)) (by omega))) ?_
            refine s_g rfl rfl rfl rfl rfl rfl (q_fieldAddr rfl Tryd.underlying28 rfl rfl ti9 rfl rfl) ?_
            refine s_g rfl rfl rfl rfl rfl rfl ((by first | exact q_load_row rfl Tryd.underlying9 rfl rfl (by rfl) | exact q_load rfl Tryd.underlying9 rfl rfl (rd_tokf (i := 2) (j := 3) hvl36 (by omega) rfl) | exact q_load rfl Tryd.underlying9 rfl rfl (rd_tokf (i := 2) (j := 4) hvl36 (by omega) rfl) | exact q_load rfl Tryd.underlying9 rfl rfl (rd_tokf (i := 3) (j := 3) hvl36 (by omega) rfl))) ?_
            refine s_g rfl rfl rfl rfl rfl rfl (q_eql_str rfl rfl rfl) ?_
            exact s_val rfl
          ) (wanted_n rfl) rfl rfl rfl ?_
        refine s_list ?_
        refine l_e0 rfl rfl (e_storeS rfl ti4 rfl rfl (by first | exact ⟨rfl, rfl⟩ | assumption) rfl (by first | (simp only [List.set_cons_succ, List.set_cons_zero]; rfl) | rfl)) ?_
        rintro _ _ _ ⟨rfl, rfl⟩
        refine l_nil ?_
        refine n_then ?_
        refine t_ret ?_
        refine n_np_ret ?_
        refine n_retGM (bs := [bd]) (.inl rfl) rfl (by exact res_cell rfl Tryd.underlying4 rfl (by first | exact rd_rowI rfl | exact rd_tokf (i := 2) (j := 3) hvl36 (by omega) rfl | exact rd_tokf (i := 2) (j := 4) hvl36 (by omega) rfl | exact rd_tokf (i := 3) (j := 3) hvl36 (by omega) rfl) (res_nil)) (fun w' hw => ?_)
        -- leaf 1
        refine ⟨?_, (hw.less (hJ27.trans hJ36)).below⟩
        simp [dOut, nth]
        rw [decide_eq_true (by omega)]
        rfl
      · skip
        intro bd cc rb hex hle
        obtain ⟨rfl, hrb⟩ := hex
        try dsimp only at *
        refine t_ret ?_
        refine n_ret_block ?_
        refine n_ret_then ?_
        refine n_np_ret ?_
        refine n_retGM (bs := [bd]) (.inl rfl) rfl (by exact res_cell rfl Tryd.underlying4 rfl (by first | exact rd_rowI rfl | exact rd_tokf (i := 2) (j := 3) hvl36 (by omega) rfl | exact rd_tokf (i := 2) (j := 4) hvl36 (by omega) rfl | exact rd_tokf (i := 3) (j := 3) hvl36 (by omega) rfl) (res_nil)) (fun w' hw => ?_)
        -- leaf 2
        refine ⟨?_, (hw.less hJ27).below⟩
        rw [hrb]
        rfl
end Go.Tri
