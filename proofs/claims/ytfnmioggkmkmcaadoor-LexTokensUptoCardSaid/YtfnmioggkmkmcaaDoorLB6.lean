/-
  The statement: LexAhead.
-/
import Derived.Test.YtfnmioggkmkmcaaDoorLB2
import Derived.Test.YtfnmioggkmkmcaaDoorPLex10
namespace Go.Tri
open Go.Proofs Go.RowKit
set_option maxRecDepth 100000
theorem eqTok (c d : Tok) (w : World) : (Op.equalIn 10000 28 (.agg (tokC c).toArray) (.agg (tokC d).toArray)).run Tryd.prog w = .ok (decide (c = d)) w := by
  rw [run_equalIn_agg w 9999 28 _ _ (by kernel_rfl) (by kernel_rfl)]
  show (Op.eqFields 9999 _ _ [_, _, _, _, _]).run Tryd.prog w = _
  simp [Op.eqFields, tokC, str, part, run_isAgg_false Tryd.underlying3 rfl, run_isAgg_false Tryd.underlying4 rfl, run_isAgg_false Tryd.underlying9 rfl]
  have ei : ∀ (x y : Int) (w : World), (Op.equalIn 9999 3 (.int .i64 x) (.int .i64 y)).run Tryd.prog w = .ok (x == y) w := fun x y w => run_equalIn_int (P := Tryd.prog) w 9998 3 .i64 .i64 x y Tryd.underlying3
  have es : ∀ (x y : ByteArray) (w : World), (Op.equalIn 9999 9 (.string x) (.string y)).run Tryd.prog w = .ok (x.toList == y.toList) w := fun x y w => run_equalIn_string (P := Tryd.prog) w 9998 9 x y Tryd.underlying9
  have eb : ∀ (x y : Bool) (w : World), (Op.equalIn 9999 4 (.bool x) (.bool y)).run Tryd.prog w = .ok (x == y) w := fun x y w => run_equalIn_bool' (P := Tryd.prog) w 9998 4 x y Tryd.underlying4
  obtain ⟨c1, c2, c3, c4, c5⟩ := c
  obtain ⟨d1, d2, d3, d4, d5⟩ := d
  simp only [ei, es, eb, Result.andThen_ok, ByteArray.toList_eq, Tok.mk.injEq]
  by_cases h1 : c1 = d1 <;> by_cases h2 : c2 = d2 <;> by_cases h3 : c3 = d3 <;> by_cases h4 : c4 = d4 <;> by_cases h5 : c5 = d5 <;> simp [h1, h2, h3, h4, h5] <;> omega
set_option maxRecDepth 10000 in
theorem lexAhead_pure (s a b : List UInt8) (w : World) (hs : s.length ≤ 1048576) (ha : a.length ≤ 1048576) (hb : b.length ≤ 1048576) (hG : EnvI (look w)) : Pure Tryd.prog 4 [str s, str a, str b] w (.bool true) := by
  refine enter Tryd.func4 rfl Tryd.ntmps4 rfl (St.start w (look w) (Le.refl _)) ?_
  refine t_seq ?_
  refine t_region ?_
  refine l_q rfl rfl rfl (q_assign rfl rfl) ?_
  refine l_nil ?_
  refine n_then ?_
  refine t_seq ?_
  refine t_seq ?_
  refine t_region ?_
  refine l_q rfl rfl rfl (quiet_call rfl rfl rfl Tryd.func9 (by kernel_rfl) rfl ((fun w hw => awake_pure w (hG.mono hw.le)))) ?_
  refine l_q rfl rfl rfl (q_not rfl rfl) ?_
  refine l_nil ?_
  refine n_then ?_
  refine t_cond rfl (fun hc0 => ?_) (fun hc0 => ?_)
  · skip
    try simp at hc0
  · skip
    try simp at hc0
    refine t_skip ?_
    refine n_then ?_
    refine t_seq ?_
    refine t_region ?_
    refine l_q rfl rfl rfl (q_move rfl rfl) ?_
    refine l_e rfl rfl rfl (eff_call rfl rfl rfl Tryd.func10 (by kernel_rfl) rfl (fun w hw => line_calls (s) (0) _ _ _ w (by omega) (hG) hw)) ?_
    rintro _ J21 _ ⟨hJ21, rfl, vl21, rfl, hvl21⟩
    obtain ⟨lv, hlv⟩ : ∃ lv, lv = lineP s 0 := ⟨_, rfl⟩
    rw [← hlv] at hvl21 ⊢
    have hsl := lineP_len s
    rw [← hlv] at hsl
    refine l_q rfl rfl rfl (q_move rfl rfl) ?_
    refine l_q rfl rfl rfl (q_extract rfl rfl rfl) ?_
    refine l_q rfl rfl rfl (q_extract rfl rfl rfl) ?_
    refine l_q rfl rfl rfl (q_extract rfl rfl rfl) ?_
    refine l_q rfl rfl rfl (q_extract rfl rfl rfl) ?_
    refine l_q rfl rfl rfl (q_assign rfl rfl) ?_
    refine l_q rfl rfl rfl (q_assign rfl rfl) ?_
    refine l_q rfl rfl rfl (q_assign rfl rfl) ?_
    refine l_q rfl rfl rfl (q_assign rfl rfl) ?_
    refine l_nil ?_
    refine n_then ?_
    refine t_seq ?_
    refine t_seq ?_
    refine t_qreg ?_
    refine s_q rfl rfl rfl (q_move rfl rfl) ?_
    refine s_q rfl rfl rfl (q_neq rfl rfl rfl) ?_
    refine s_q rfl rfl rfl (q_move rfl rfl) ?_
    refine s_or2 9 2 28 38 37 _ _ rfl rfl rfl rfl rfl rfl (fun h38 => by
        try simp at h38
        refine s_g rfl rfl rfl rfl rfl rfl (q_move rfl rfl) ?_
        refine s_g rfl rfl rfl rfl rfl rfl (q_len_str rfl Tryd.underlying9 rfl) ?_
        refine s_g rfl rfl rfl rfl rfl rfl (q_move rfl rfl) ?_
        refine s_g rfl rfl rfl rfl rfl rfl (q_len_str rfl Tryd.underlying9 rfl) ?_
        refine s_g rfl rfl rfl rfl rfl rfl (q_add64 rfl rfl rfl (by omega)) ?_
        refine s_g rfl rfl rfl rfl rfl rfl (q_move rfl rfl) ?_
        refine s_g rfl rfl rfl rfl rfl rfl (q_len_str rfl Tryd.underlying9 rfl) ?_
        refine s_g rfl rfl rfl rfl rfl rfl (q_add64 rfl rfl rfl (by omega)) ?_
        refine s_g rfl rfl rfl rfl rfl rfl (q_gtr rfl rfl rfl) ?_
        exact s_val rfl
      ) (wanted_n rfl) rfl rfl rfl ?_
    refine s_q rfl rfl rfl (q_move rfl rfl) ?_
    refine s_or2 3 13 39 43 42 _ _ rfl rfl rfl rfl rfl rfl (fun h43 => by
        try simp at h43
        refine s_g rfl rfl rfl rfl rfl rfl (q_move rfl rfl) ?_
        refine s_g rfl rfl rfl rfl rfl rfl ((by first | exact q_lenV rfl Tryd.underlying23 rfl | exact q_len rfl Tryd.underlying23 rfl (Sl.lenOf hvl21 (List.length_map _)) | exact q_len rfl Tryd.underlying23 rfl (Sl.lenOf (n := lv.toks.length) hvl71 (by simp)))) ?_
        refine s_g rfl rfl rfl rfl rfl rfl (q_eql rfl rfl rfl) ?_
        exact s_val rfl
      ) (wanted_n rfl) rfl rfl rfl ?_
    refine s_q rfl rfl rfl (q_move rfl rfl) ?_
    refine s_or2 8 18 44 53 52 _ _ rfl rfl rfl rfl rfl rfl (fun h53 => by
        try simp at h53
        have hp0 : 0 < lv.toks.length := List.length_pos_iff.2 h53.2
        refine s_g rfl rfl rfl rfl rfl rfl (q_move rfl rfl) ?_
        refine s_g rfl rfl rfl rfl rfl rfl (q_move rfl rfl) ?_
        refine s_g rfl rfl rfl rfl rfl rfl ((by first | exact q_lenV rfl Tryd.underlying23 rfl | exact q_len rfl Tryd.underlying23 rfl (Sl.lenOf hvl21 (List.length_map _)) | exact q_len rfl Tryd.underlying23 rfl (Sl.lenOf (n := lv.toks.length) hvl71 (by simp)))) ?_
        refine s_g rfl rfl rfl rfl rfl rfl (q_sub64 rfl rfl rfl (by omega)) ?_
        refine s_g rfl rfl rfl rfl rfl rfl ((by first | exact q_indexAddrVN rfl Tryd.underlying23 ti28 rfl rfl (by omega) | exact q_indexAddrN rfl Tryd.underlying23 ti28 rfl rfl (Sl.shape hvl21 (List.length_map _)) (by omega) | exact q_indexAddrN rfl Tryd.underlying23 ti28 rfl rfl (Sl.shape (hvl21.mono hJ71) (List.length_map _)) (by omega) | exact q_indexAddrN rfl Tryd.underlying23 ti28 rfl rfl (Sl.shape (n := lv.toks.length) hvl71 (by simp)) (by omega) | exact q_indexAddrV rfl Tryd.underlying23 ti28 rfl rfl (by omega) | exact q_indexAddr rfl Tryd.underlying23 ti28 rfl rfl (Sl.shape hvl21 (List.length_map _)) (by omega) | exact q_indexAddr rfl Tryd.underlying23 ti28 rfl rfl (Sl.shape (hvl21.mono hJ71) (List.length_map _)) (by omega) | exact q_indexAddr rfl Tryd.underlying23 ti28 rfl rfl (Sl.shape (n := lv.toks.length) hvl71 (by simp)) (by omega))) ?_
        refine s_g rfl rfl rfl rfl rfl rfl (q_fieldAddr rfl Tryd.underlying28 rfl rfl ti3 rfl rfl) ?_
        refine s_g rfl rfl rfl rfl rfl rfl ((by first | exact q_load_row rfl Tryd.underlying3 rfl rfl (by rfl) | exact q_load rfl Tryd.underlying3 rfl rfl (rd_tokf (i := ((lv.toks.length : Int) - 1).toNat) (j := 0) hvl21 (by omega) rfl))) ?_
        refine s_g rfl rfl rfl rfl rfl rfl (q_neq rfl rfl rfl) ?_
        exact s_val rfl
      ) (wanted_n rfl) rfl rfl rfl ?_
    refine s_q rfl rfl rfl (q_move rfl rfl) ?_
    refine s_or2 5 28 54 60 59 _ _ rfl rfl rfl rfl rfl rfl (fun h60 => by
        try simp at h60
        have hp0 : 0 < lv.toks.length := List.length_pos_iff.2 h60.1.2
        refine s_g rfl rfl rfl rfl rfl rfl (q_move rfl rfl) ?_
        refine s_g rfl rfl rfl rfl rfl rfl (q_move rfl rfl) ?_
        refine s_g rfl rfl rfl rfl rfl rfl (q_sub64 rfl rfl rfl (by omega)) ?_
        refine s_g rfl rfl rfl rfl rfl rfl ((by first | exact q_index_strN rfl Tryd.underlying9 rfl rfl (by omega) | exact q_index_str rfl Tryd.underlying9 rfl rfl (by omega))) ?_
        refine s_g rfl rfl rfl rfl rfl rfl (q_neq_u8c rfl rfl rfl rfl) ?_
        exact s_val rfl
      ) (wanted_n rfl) rfl rfl rfl ?_
    refine s_done ?_
    refine n_then ?_
    refine t_cond rfl (fun hc1 => ?_) (fun hc1 => ?_)
    · skip
      refine t_seq ?_
      refine t_region ?_
      refine l_q rfl rfl rfl (q_assign rfl rfl) ?_
      refine l_nil ?_
      refine n_then ?_
      refine t_ret ?_
      refine n_ret_then ?_
      refine n_ret1 rfl rfl (fun w' hw => ?_)
      -- leaf 0
      exact ⟨rfl, (hw.less hJ21).below⟩
    · skip
      have h1 := hc1
      simp at h1
      obtain ⟨⟨⟨⟨h2, h3⟩, h4⟩, h5⟩, h6⟩ := h1
      have hp0 : 0 < lv.toks.length := List.length_pos_iff.2 h4
      have hah := line_ahead (s := s) (a := a) (b := b) (by rw [← hlv]; exact h2) (by rw [← hlv]; exact h4) (by rw [← hlv]; omega) (by rw [← hlv]; exact h6) (by omega)
      rw [← hlv] at hah
      have hsta := stands (s := s) (by rw [← hlv]; exact h2)
      rw [← hlv] at hsta
      refine t_skip ?_
      refine n_then ?_
      refine t_seq ?_
      refine t_region ?_
      refine l_q rfl rfl rfl (q_move rfl rfl) ?_
      refine l_q rfl rfl rfl (q_move rfl rfl) ?_
      refine l_q rfl rfl rfl (q_move rfl rfl) ?_
      refine l_q rfl rfl rfl (q_slice_str_to rfl Tryd.underlying9 rfl rfl (by omega)) ?_
      refine l_q rfl rfl rfl (q_cat rfl rfl rfl (by first | omega | (simp only [List.length_append, List.length_cons, List.length_nil, List.length_take, List.length_drop]; omega))) ?_
      refine l_q rfl rfl rfl (q_move rfl rfl) ?_
      refine l_q rfl rfl rfl (q_cat rfl rfl rfl (by first | omega | (simp only [List.length_append, List.length_cons, List.length_nil, List.length_take, List.length_drop]; omega))) ?_
      refine l_q rfl rfl rfl (q_move rfl rfl) ?_
      refine l_q rfl rfl rfl (q_len_str rfl Tryd.underlying9 rfl) ?_
      refine l_e rfl rfl rfl (eff_call rfl rfl rfl Tryd.func10 (by kernel_rfl) rfl (fun w hw => line_calls (a ++ s.take lv.fin ++ b) (a.length) _ _ _ w (by simp only [List.length_append, List.length_take]; omega) (hG.mono hJ21) hw)) ?_
      rintro _ J71 _ ⟨hJ71, rfl, vl71, rfl, hvl71⟩
      rw [hah] at hvl71 ⊢
      dsimp only at hvl71
      refine l_q rfl rfl rfl (q_move rfl rfl) ?_
      refine l_q rfl rfl rfl (q_extract rfl rfl rfl) ?_
      refine l_q rfl rfl rfl (q_extract rfl rfl rfl) ?_
      refine l_q rfl rfl rfl (q_extract rfl rfl rfl) ?_
      refine l_q rfl rfl rfl (q_extract rfl rfl rfl) ?_
      refine l_q rfl rfl rfl (q_assign rfl rfl) ?_
      refine l_q rfl rfl rfl (q_assign rfl rfl) ?_
      refine l_q rfl rfl rfl (q_assign rfl rfl) ?_
      refine l_q rfl rfl rfl (q_assign rfl rfl) ?_
      refine l_nil ?_
      refine n_then ?_
      refine t_seq ?_
      refine t_seq ?_
      refine t_qreg ?_
      refine s_q rfl rfl rfl (q_move rfl rfl) ?_
      refine s_q rfl rfl rfl (q_neq rfl rfl rfl) ?_
      refine s_q rfl rfl rfl (q_move rfl rfl) ?_
      refine s_or2 6 2 78 85 84 _ _ rfl rfl rfl rfl rfl rfl (fun h85 => by
          try simp at h85
          refine s_g rfl rfl rfl rfl rfl rfl (q_move rfl rfl) ?_
          refine s_g rfl rfl rfl rfl rfl rfl (q_move rfl rfl) ?_
          refine s_g rfl rfl rfl rfl rfl rfl (q_move rfl rfl) ?_
          refine s_g rfl rfl rfl rfl rfl rfl (q_len_str rfl Tryd.underlying9 rfl) ?_
          refine s_g rfl rfl rfl rfl rfl rfl (q_add64 rfl rfl rfl (by omega)) ?_
          refine s_g rfl rfl rfl rfl rfl rfl (q_neq rfl rfl rfl) ?_
          exact s_val rfl
        ) (wanted_n rfl) rfl rfl rfl ?_
      refine s_q rfl rfl rfl (q_move rfl rfl) ?_
      refine s_or2 5 10 86 92 91 _ _ rfl rfl rfl rfl rfl rfl (fun h92 => by
          try simp at h92
          refine s_g rfl rfl rfl rfl rfl rfl (q_move rfl rfl) ?_
          refine s_g rfl rfl rfl rfl rfl rfl ((by first | exact q_lenV rfl Tryd.underlying23 rfl | exact q_len rfl Tryd.underlying23 rfl (Sl.lenOf hvl21 (List.length_map _)) | exact q_len rfl Tryd.underlying23 rfl (Sl.lenOf (n := lv.toks.length) hvl71 (by simp)))) ?_
          refine s_g rfl rfl rfl rfl rfl rfl (q_move rfl rfl) ?_
          refine s_g rfl rfl rfl rfl rfl rfl ((by first | exact q_lenV rfl Tryd.underlying23 rfl | exact q_len rfl Tryd.underlying23 rfl (Sl.lenOf hvl21 (List.length_map _)) | exact q_len rfl Tryd.underlying23 rfl (Sl.lenOf (n := lv.toks.length) hvl71 (by simp)))) ?_
          refine s_g rfl rfl rfl rfl rfl rfl (q_neq rfl rfl rfl) ?_
          exact s_val rfl
        ) (wanted_n rfl) rfl rfl rfl ?_
      refine s_done ?_
      refine n_then ?_
      refine t_cond rfl (fun hc2 => ?_) (fun hc2 => ?_)
      · skip
        exfalso
        have h8 := hc2
        simp at h8
      · skip
        refine t_skip ?_
        refine n_then ?_
        refine t_seq ?_
        refine t_seq ?_
        refine t_region ?_
        refine l_q rfl rfl rfl (q_move rfl rfl) ?_
        refine l_q rfl rfl rfl ((by first | exact q_lenV rfl Tryd.underlying23 rfl | exact q_len rfl Tryd.underlying23 rfl (Sl.lenOf hvl21 (List.length_map _)) | exact q_len rfl Tryd.underlying23 rfl (Sl.lenOf (n := lv.toks.length) hvl71 (by simp)))) ?_
        refine l_q rfl rfl rfl (q_move rfl rfl) ?_
        refine l_nil ?_
        refine n_then ?_
        refine t_block ?_
        refine t_loopE (ι := Nat) (fun zz => zz ≤ lv.toks.length) (fun zz => lv.toks.length - zz) (fun zz => [(95, .int .i64 (zz : Int))]) [(0, _), (1, _), (2, _), (18, _), (7, _), (8, _), (10, _), (60, _), (11, _), (12, _), (14, _), (92, _), (94, _)] (fun zz => J71) (fun zz => []) 0 ?_ (sub_cons rfl sub_nil) (sub_cons rfl (sub_cons rfl (sub_cons rfl (sub_cons rfl (sub_cons rfl (sub_cons rfl (sub_cons rfl (sub_cons rfl (sub_cons rfl (sub_cons rfl (sub_cons rfl (sub_cons rfl (sub_cons rfl sub_nil))))))))))))) (fun _ h => subC_st h) ?_
        · try dsimp only
          exact Nat.zero_le _
        rintro i hi
        try dsimp only at *
        refine t_seq ?_
        refine t_region ?_
        refine l_q rfl rfl rfl (q_lss rfl rfl rfl) ?_
        refine l_nil ?_
        refine n_then ?_
        refine t_seq ?_
        refine t_cond rfl (fun hc3 => ?_) (fun hc3 => ?_)
        · skip
          try simp at hc3
          have hpos := stand_pos hsta i (by omega)
          refine t_skip ?_
          refine n_then ?_
          refine t_seq ?_
          refine t_block ?_
          refine t_seq ?_
          refine t_region ?_
          refine l_q rfl rfl rfl (q_move rfl rfl) ?_
          refine l_q rfl rfl rfl (q_assign rfl rfl) ?_
          refine l_nil ?_
          refine n_then ?_
          refine t_seq ?_
          refine t_region ?_
          refine l_q rfl rfl rfl (q_move rfl rfl) ?_
          refine l_q rfl rfl rfl (q_move rfl rfl) ?_
          refine l_q rfl rfl rfl ((by first | exact q_indexAddrVN rfl Tryd.underlying23 ti28 rfl rfl (by omega) | exact q_indexAddrN rfl Tryd.underlying23 ti28 rfl rfl (Sl.shape hvl21 (List.length_map _)) (by omega) | exact q_indexAddrN rfl Tryd.underlying23 ti28 rfl rfl (Sl.shape (hvl21.mono hJ71) (List.length_map _)) (by omega) | exact q_indexAddrN rfl Tryd.underlying23 ti28 rfl rfl (Sl.shape (n := lv.toks.length) hvl71 (by simp)) (by omega) | exact q_indexAddrV rfl Tryd.underlying23 ti28 rfl rfl (by omega) | exact q_indexAddr rfl Tryd.underlying23 ti28 rfl rfl (Sl.shape hvl21 (List.length_map _)) (by omega) | exact q_indexAddr rfl Tryd.underlying23 ti28 rfl rfl (Sl.shape (hvl21.mono hJ71) (List.length_map _)) (by omega) | exact q_indexAddr rfl Tryd.underlying23 ti28 rfl rfl (Sl.shape (n := lv.toks.length) hvl71 (by simp)) (by omega))) ?_
          refine l_q rfl rfl rfl ((by first | exact q_load_rowA rfl Tryd.underlying28 ti28 rfl rfl rfl | exact q_load_agg rfl Tryd.underlying28 ti28 rfl rfl (rds_tok (i := i) (hvl21.mono hJ71) (by omega)) | exact q_load_agg rfl Tryd.underlying28 ti28 rfl rfl (rds_tok (i := i) hvl71 (by simp; omega)))) ?_
          refine l_e rfl rfl rfl (e_alloc rfl ti28 rfl) ?_
          rintro _ _ _ ⟨b16, rfl, rfl, rfl⟩
          refine l_e0 rfl rfl ((by first | exact e_store_all rfl ti28 rfl rfl rfl (by first | exact chC_ones _ | exact pcC_ones _ | exact tokC_ones _ | simp [Value.oneCell', str, u8]) rfl | exact e_store_agg rfl ti28 rfl rfl rfl (by first | exact chC_ones _ | exact pcC_ones _ | exact tokC_ones _ | simp [Value.oneCell', str, u8]) rfl)) ?_
          rintro _ _ _ ⟨rfl, rfl⟩
          refine l_nil ?_
          refine n_then ?_
          refine t_seq ?_
          refine t_region ?_
          refine l_q rfl rfl rfl (q_fieldAddr rfl Tryd.underlying28 rfl rfl ti3 rfl rfl) ?_
          refine l_q rfl rfl rfl ((by first | exact q_load_row rfl Tryd.underlying3 rfl rfl (by rfl) | exact q_load rfl Tryd.underlying3 rfl rfl (rd_tokf (i := ((lv.toks.length : Int) - 1).toNat) (j := 0) hvl21 (by omega) rfl))) ?_
          refine l_q rfl rfl rfl (q_move rfl rfl) ?_
          refine l_q rfl rfl rfl (q_len_str rfl Tryd.underlying9 rfl) ?_
          refine l_q rfl rfl rfl (q_add64 rfl rfl rfl (by omega)) ?_
          refine l_q rfl rfl rfl (q_fieldAddr rfl Tryd.underlying28 rfl rfl ti3 rfl rfl) ?_
          refine l_e0 rfl rfl (e_storeS rfl ti3 rfl rfl (by first | exact ⟨rfl, rfl⟩ | assumption) rfl (by first | (simp only [List.set_cons_succ, List.set_cons_zero]; rfl) | rfl)) ?_
          rintro _ _ _ ⟨rfl, rfl⟩
          refine l_heap (H' := row b16 28 (tokC (shiftT a.length (nth lv.toks i tok0))) :: _) ?_ (fun _ h => h)
          refine l_nil ?_
          refine n_then ?_
          refine t_seq ?_
          refine t_qdraw mo (by kernel_rfl) (fun _ _ _ _ _ h => h) ?_
          refine s_q rfl rfl rfl (q_move rfl rfl) ?_
          refine s_q rfl rfl rfl (q_move rfl rfl) ?_
          refine s_q rfl rfl rfl ((by first | exact q_indexAddrVN rfl Tryd.underlying23 ti28 rfl rfl (by omega) | exact q_indexAddrN rfl Tryd.underlying23 ti28 rfl rfl (Sl.shape hvl21 (List.length_map _)) (by omega) | exact q_indexAddrN rfl Tryd.underlying23 ti28 rfl rfl (Sl.shape (hvl21.mono hJ71) (List.length_map _)) (by omega) | exact q_indexAddrN rfl Tryd.underlying23 ti28 rfl rfl (Sl.shape (n := lv.toks.length) hvl71 (by simp)) (by omega) | exact q_indexAddrV rfl Tryd.underlying23 ti28 rfl rfl (by omega) | exact q_indexAddr rfl Tryd.underlying23 ti28 rfl rfl (Sl.shape hvl21 (List.length_map _)) (by omega) | exact q_indexAddr rfl Tryd.underlying23 ti28 rfl rfl (Sl.shape (hvl21.mono hJ71) (List.length_map _)) (by omega) | exact q_indexAddr rfl Tryd.underlying23 ti28 rfl rfl (Sl.shape (n := lv.toks.length) hvl71 (by simp)) (by omega))) ?_
          refine s_q rfl rfl rfl ((by first | exact q_load_rowA rfl Tryd.underlying28 ti28 rfl rfl rfl | exact q_load_agg rfl Tryd.underlying28 ti28 rfl rfl (rds_tok (i := i) (hvl21.mono hJ71) (by omega)) | exact q_load_agg rfl Tryd.underlying28 ti28 rfl rfl (rds_tok (i := i) hvl71 (by simp; omega)))) ?_
          refine s_q rfl rfl rfl ((by first | exact q_load_rowA rfl Tryd.underlying28 ti28 rfl rfl rfl | exact q_load_agg rfl Tryd.underlying28 ti28 rfl rfl (rds_tok (i := i) (hvl21.mono hJ71) (by omega)) | exact q_load_agg rfl Tryd.underlying28 ti28 rfl rfl (rds_tok (i := i) hvl71 (by simp; omega)))) ?_
          refine s_q rfl rfl rfl (q_neq_st rfl (by kernel_rfl) rfl rfl (eqTok _ _)) ?_
          refine s_done ?_
          refine n_then ?_
          refine t_cond rfl (fun hc4 => ?_) (fun hc4 => ?_)
          · skip
            exfalso
            have h8 := hc4
            rw [nth_eq (by rw [List.length_map]; omega), List.getElem_map, nth_eq (by omega)] at h8
            simp at h8
          · skip
            refine t_skip ?_
            refine n_block ?_
            refine n_then ?_
            refine t_region ?_
            refine l_q rfl rfl rfl (q_add64 rfl rfl rfl (by omega)) ?_
            refine l_q rfl rfl rfl (q_move rfl rfl) ?_
            refine l_nil ?_
            refine n_roundE (i + 1) ?_ ?_ (sub_cons rfl sub_nil) (sub_cons rfl (sub_cons rfl (sub_cons rfl (sub_cons rfl (sub_cons rfl (sub_cons rfl (sub_cons rfl (sub_cons rfl (sub_cons rfl (sub_cons rfl (sub_cons rfl (sub_cons rfl (sub_cons rfl sub_nil))))))))))))) (fun _ h => by try dsimp only; exact subC_st h)
            · try dsimp only
              omega
            · try dsimp only
              omega
        · skip
          try simp at hc3
          refine t_exit ?_
          refine n_exit_then ?_
          refine n_exit_then ?_
          refine n_exit_block ?_
          refine n_then ?_
          refine t_seq ?_
          refine t_region ?_
          refine l_q rfl rfl rfl (q_assign rfl rfl) ?_
          refine l_nil ?_
          refine n_then ?_
          refine t_ret ?_
          refine n_ret1 rfl rfl (fun w' hw => ?_)
          -- leaf 1
          exact ⟨rfl, (hw.less (hJ21.trans hJ71)).below⟩
end Go.Tri
