/-
  The statement: LexQuoted.
-/
import Derived.Test.YtfnmioggkmkmcaaDoorLB3
import Derived.Test.YtfnmioggkmkmcaaDoorPOpen
namespace Go.Tri
open Go.Proofs Go.RowKit
theorem quoted_snoc (l : List (List UInt8)) (k : Nat) (h : k < l.length) : quotedS (l.take (k + 1)) = quotedS (l.take k) ++ ([32] ++ quoteB (nth l k []) ++ [9]) := by
  rw [take_nth [] h]; unfold quotedS; rw [List.flatMap_append]; simp
theorem map_snoc (l : List (List UInt8)) (k : Nat) (h : k < l.length) : (l.take (k + 1)).map quoteB = (l.take k).map quoteB ++ [quoteB (nth l k [])] := by
  rw [take_nth [] h, List.map_append]; rfl
theorem nth_mapq {l : List (List UInt8)} {i : Nat} (h : i < l.length) : nth (l.map quoteB) i [] = quoteB (nth l i []) := by
  have h2 : i < (l.map quoteB).length := by rw [List.length_map]; exact h
  rw [nth_eq h2, nth_eq h, List.getElem_map]
set_option maxRecDepth 10000 in
theorem lexQuoted_pure (vl : Value) (l : List (List UInt8)) (w : World) (hll : l.length ≤ 1048576) (htl : totS l ≤ 1048576) (hv : Sl (look w) 1 vl (l.map stC)) (hG : EnvI (look w)) : Pure Tryd.prog 8 [vl] w (.bool true) := by
  refine enter Tryd.func8 rfl Tryd.ntmps8 rfl (St.start w (look w) (Le.refl _)) ?_
  refine t_seq ?_
  refine t_region ?_
  refine l_q rfl rfl rfl (q_assign rfl rfl) ?_
  refine l_nil ?_
  refine n_then ?_
  refine t_seq ?_
  refine t_seq ?_
  refine t_region ?_
  refine l_q rfl rfl rfl (quiet_call rfl rfl rfl Tryd.func9 (by kernel_rfl) rfl ((fun w hw => awake_pure w (hG.mono hw.le)))) ?_
  refine l_q rfl rfl rfl (q_not rfl rfl) ?_
  refine l_nil ?_
  refine n_then ?_
  refine t_cond rfl (fun hc0 => ?_) (fun hc0 => ?_)
  · skip
    try simp at hc0
  · skip
    try simp at hc0
    refine t_skip ?_
    refine n_then ?_
    refine t_seq ?_
    refine t_region ?_
    refine l_q rfl rfl rfl (q_assign rfl rfl) ?_
    refine l_nil ?_
    refine n_then ?_
    refine t_seq ?_
    refine t_region ?_
    refine l_q rfl rfl rfl (q_assign rfl rfl) ?_
    refine l_nil ?_
    refine n_then ?_
    refine t_seq ?_
    refine t_seq ?_
    refine t_region ?_
    refine l_q rfl rfl rfl (q_move rfl rfl) ?_
    refine l_q rfl rfl rfl ((by first | exact q_lenV rfl Tryd.underlying44 rfl | exact q_len rfl Tryd.underlying44 rfl (Sl.lenOf hv (List.length_map _)) | exact q_len rfl Tryd.underlying44 rfl (Sl.lenOf hvl43 (List.length_map _)) | exact q_len rfl Tryd.underlying44 rfl (Sl.lenOf (hvq.mono hJ43) (List.length_map _)))) ?_
    refine l_q rfl rfl rfl (q_move rfl rfl) ?_
    refine l_nil ?_
    refine n_then ?_
    refine t_block ?_
    refine t_loopE (ι := Nat × Value) (fun zz => zz.1 ≤ l.length ∧ (quotedS (l.take zz.1)).length ≤ 4000 ∧ zz.1 ≤ 30) (fun zz => l.length - zz.1) (fun zz => [(17, .int .i64 (zz.1 : Int)), (3, str (quotedS (l.take zz.1))), (4, zz.2)]) [(0, _), (14, _), (15, _), (16, _)] (fun zz => look w) (fun zz => [tvec 9 1 stC zz.2 ((l.take zz.1).map quoteB)]) (0, .slice none 0 0) ?_ (sub_cons rfl (sub_cons rfl (sub_cons rfl sub_nil))) (sub_cons rfl (sub_cons rfl (sub_cons rfl (sub_cons rfl sub_nil)))) (fun _ h => st_nilT 9 1 stC h) ?_
    · try dsimp only
      exact ⟨Nat.zero_le _, Nat.zero_le _, Nat.zero_le _⟩
    rintro ⟨k, v⟩ ⟨hk, hsq, hk30⟩
    try dsimp only at *
    have hmk : ((l.take k).map quoteB).length = k := by rw [List.length_map, List.length_take]; omega
    refine t_seq ?_
    refine t_region ?_
    refine l_q rfl rfl rfl (q_lss rfl rfl rfl) ?_
    refine l_nil ?_
    refine n_then ?_
    refine t_seq ?_
    refine t_cond rfl (fun hc1 => ?_) (fun hc1 => ?_)
    · skip
      try simp at hc1
      have hql := quoteB_len (nth l k [])
      have htm := totS_mem (nth_mem (l := l) (i := k) (d := []) (by omega))
      refine t_skip ?_
      refine n_then ?_
      refine t_seq ?_
      refine t_block ?_
      refine t_seq ?_
      refine t_region ?_
      refine l_q rfl rfl rfl ((by first | exact q_indexAddrVN rfl Tryd.underlying44 ti9 rfl rfl (by omega) | exact q_indexAddrN rfl Tryd.underlying44 ti9 rfl rfl (Sl.shape hv (List.length_map _)) (by omega) | exact q_indexAddrN rfl Tryd.underlying44 ti9 rfl rfl (Sl.shape hvl43 (List.length_map _)) (by omega) | exact q_indexAddrN rfl Tryd.underlying44 ti9 rfl rfl (Sl.shape (hvq.mono hJ43) (List.length_map _)) (by omega) | exact q_indexAddrV rfl Tryd.underlying44 ti9 rfl rfl (by omega) | exact q_indexAddr rfl Tryd.underlying44 ti9 rfl rfl (Sl.shape hv (List.length_map _)) (by omega) | exact q_indexAddr rfl Tryd.underlying44 ti9 rfl rfl (Sl.shape hvl43 (List.length_map _)) (by omega) | exact q_indexAddr rfl Tryd.underlying44 ti9 rfl rfl (Sl.shape (hvq.mono hJ43) (List.length_map _)) (by omega))) ?_
      refine l_q rfl rfl rfl ((by first | exact q_load_row rfl Tryd.underlying9 rfl rfl (by rfl) | exact q_load rfl Tryd.underlying9 rfl rfl (rd_st (i := k) hv (by omega)) | exact q_load rfl Tryd.underlying9 rfl rfl (rd_tokf (i := i) (j := 0) hvl43 (by omega) rfl) | exact q_load rfl Tryd.underlying9 rfl rfl (rd_tokf (i := i) (j := 1) hvl43 (by omega) rfl) | exact q_load rfl Tryd.underlying9 rfl rfl (rd_st (i := i) (hvq.mono hJ43) (by rw [List.length_map]; omega)))) ?_
      refine l_q rfl rfl rfl (q_assign rfl rfl) ?_
      refine l_nil ?_
      refine n_then ?_
      refine t_seq ?_
      refine t_region ?_
      refine l_q rfl rfl rfl (q_move rfl rfl) ?_
      refine l_q rfl rfl rfl (quiet_call rfl rfl rfl Tryd.func15 (by kernel_rfl) rfl ((fun w hw => quote_pure (nth l k []) w (by have := totS_mem (nth_mem (l := l) (i := k) (d := []) (by omega)); omega) (hG.mono hw.le)))) ?_
      refine l_q rfl rfl rfl (q_assign rfl rfl) ?_
      refine l_nil ?_
      refine n_then ?_
      refine t_seq ?_
      refine t_region ?_
      refine l_q rfl rfl rfl (q_move rfl rfl) ?_
      refine l_q rfl rfl rfl (q_move rfl rfl) ?_
      refine l_e rfl rfl rfl (e_buildSlice1 rfl Tryd.underlying44 ti9 rfl rfl rfl (by first | exact One.cells (by assumption) | rfl) rfl) ?_
      rintro _ _ _ ⟨b25, rfl, rfl, rfl⟩
      refine l_e rfl rfl rfl (e_appendT (f := stC) (c := quoteB (nth l k [])) rfl Tryd.underlying44 ti9 rfl rfl rfl rfl rfl rfl rfl (by first | exact stC_ones _ | exact byC_ones _ | exact chC_ones _ | exact pcC_ones _ | simp [Value.oneCell', str, u8] | exact ones1 (by assumption)) (by simp only [maxLen]; omega) (by omega)) ?_
      rintro v26 _ _ ⟨rfl, rfl⟩
      refine l_q rfl rfl rfl (q_assign rfl rfl) ?_
      refine l_nil ?_
      refine n_then ?_
      refine t_seq ?_
      refine t_region ?_
      refine l_q rfl rfl rfl (q_move rfl rfl) ?_
      refine l_q rfl rfl rfl (q_move rfl rfl) ?_
      refine l_q rfl rfl rfl (q_cat rfl rfl rfl (by first | omega | (simp only [List.length_append, List.length_cons, List.length_nil, List.length_take, List.length_drop]; omega))) ?_
      refine l_q rfl rfl rfl (q_cat rfl rfl rfl (by first | omega | (simp only [List.length_append, List.length_cons, List.length_nil, List.length_take, List.length_drop]; omega))) ?_
      refine l_q rfl rfl rfl (q_cat rfl rfl rfl (by first | omega | (simp only [List.length_append, List.length_cons, List.length_nil, List.length_take, List.length_drop]; omega))) ?_
      refine l_q rfl rfl rfl (q_assign rfl rfl) ?_
      refine l_nil ?_
      refine n_then ?_
      refine t_seq ?_
      refine t_qreg ?_
      refine s_q rfl rfl rfl (q_move rfl rfl) ?_
      refine s_q rfl rfl rfl (q_len_str rfl Tryd.underlying9 rfl) ?_
      refine s_q rfl rfl rfl (q_gtr rfl rfl rfl) ?_
      refine s_q rfl rfl rfl (q_move rfl rfl) ?_
      refine s_or2 3 3 35 39 38 _ _ rfl rfl rfl rfl rfl rfl (fun h39 => by
          try simp at h39
          refine s_g rfl rfl rfl rfl rfl rfl (q_move rfl rfl) ?_
          refine s_g rfl rfl rfl rfl rfl rfl ((by first | exact q_lenV rfl Tryd.underlying44 rfl | exact q_len rfl Tryd.underlying44 rfl (Sl.lenOf hv (List.length_map _)) | exact q_len rfl Tryd.underlying44 rfl (Sl.lenOf hvl43 (List.length_map _)) | exact q_len rfl Tryd.underlying44 rfl (Sl.lenOf (hvq.mono hJ43) (List.length_map _)))) ?_
          refine s_g rfl rfl rfl rfl rfl rfl (q_gtr rfl rfl rfl) ?_
          exact s_val rfl
        ) (wanted_n rfl) rfl rfl rfl ?_
      refine s_done ?_
      refine n_then ?_
      refine t_cond rfl (fun hc2 => ?_) (fun hc2 => ?_)
      · skip
        refine t_seq ?_
        refine t_region ?_
        refine l_q rfl rfl rfl (q_assign rfl rfl) ?_
        refine l_nil ?_
        refine n_then ?_
        refine t_ret ?_
        refine n_ret_block ?_
        refine n_ret_then ?_
        refine n_ret_then ?_
        refine n_ret_block ?_
        refine n_ret_then ?_
        refine n_ret1 rfl rfl (fun w' hw => ?_)
        -- leaf 0
        exact ⟨rfl, hw.below⟩
      · skip
        have h1 := hc2
        rw [Bool.or_eq_false_iff, decide_eq_false_iff_not, decide_eq_false_iff_not] at h1
        refine t_skip ?_
        refine n_block ?_
        refine n_then ?_
        refine t_region ?_
        refine l_q rfl rfl rfl (q_add64 rfl rfl rfl (by omega)) ?_
        refine l_q rfl rfl rfl (q_move rfl rfl) ?_
        refine l_nil ?_
        refine n_roundE ((k + 1, v26)) ?_ ?_ (sub_cons rfl (sub_cons' rfl (by rw [quoted_snoc l k (by omega)]) (sub_cons rfl sub_nil))) (sub_cons rfl (sub_cons rfl (sub_cons rfl (sub_cons rfl sub_nil)))) (fun _ h => by dsimp only; rw [map_snoc l k (by omega)]; exact subC_st h)
        · try dsimp only
          rw [quoted_snoc l k (by omega)]
          exact ⟨by omega, by have := h1.1; simp only [List.length_append, List.length_cons, List.length_nil] at this ⊢; omega, by have := h1.2; simp only [List.length_append, List.length_cons, List.length_nil] at this; omega⟩
        · try dsimp only
          show l.length - (k + 1) < l.length - k
          omega
    · skip
      try simp at hc1
      refine t_exit ?_
      refine n_exit_then ?_
      refine n_exit_then ?_
      refine n_exit_block ?_
      refine n_then ?_
      refine t_seq ?_
      rw [List.take_of_length_le (by omega)] at hsq ⊢
      refine t_freezeT (f := stC) (l := l.map quoteB) v (fun _ => rfl) (fun Jq hJq hvq => ?_)
      refine t_region ?_
      refine l_q rfl rfl rfl (q_move rfl rfl) ?_
      refine l_e rfl rfl rfl (eff_call rfl rfl rfl Tryd.func10 (by kernel_rfl) rfl (fun w hw => line_calls (quotedS l) (0) _ _ _ w (by omega) (hG.mono hJq) hw)) ?_
      rintro _ J43 _ ⟨hJ43, rfl, vl43, rfl, hvl43⟩
      obtain ⟨lv, hlv⟩ : ∃ lv, lv = lineP (quotedS l) 0 := ⟨_, rfl⟩
      rw [← hlv] at hvl43 ⊢
      obtain ⟨ts, hts, htn, htt⟩ := line_quoted l hsq
      rw [hts] at hlv
      have hl1 : lv.err = 0 := by rw [hlv]
      have hl2 : lv.fin = (quotedS l).length := by rw [hlv]
      have hl3 : lv.toks = ts := by rw [hlv]
      rw [hl1, hl2]
      rw [hl3] at hvl43
      refine l_q rfl rfl rfl (q_move rfl rfl) ?_
      refine l_q rfl rfl rfl (q_extract rfl rfl rfl) ?_
      refine l_q rfl rfl rfl (q_extract rfl rfl rfl) ?_
      refine l_q rfl rfl rfl (q_extract rfl rfl rfl) ?_
      refine l_q rfl rfl rfl (q_extract rfl rfl rfl) ?_
      refine l_q rfl rfl rfl (q_assign rfl rfl) ?_
      refine l_q rfl rfl rfl (q_assign rfl rfl) ?_
      refine l_q rfl rfl rfl (q_assign rfl rfl) ?_
      refine l_q rfl rfl rfl (q_assign rfl rfl) ?_
      refine l_nil ?_
      refine n_then ?_
      refine t_seq ?_
      refine t_seq ?_
      refine t_qreg ?_
      refine s_q rfl rfl rfl (q_move rfl rfl) ?_
      refine s_q rfl rfl rfl (q_neq rfl rfl rfl) ?_
      refine s_q rfl rfl rfl (q_move rfl rfl) ?_
      refine s_or2 4 2 50 55 54 _ _ rfl rfl rfl rfl rfl rfl (fun h55 => by
          try simp at h55
          refine s_g rfl rfl rfl rfl rfl rfl (q_move rfl rfl) ?_
          refine s_g rfl rfl rfl rfl rfl rfl (q_move rfl rfl) ?_
          refine s_g rfl rfl rfl rfl rfl rfl (q_len_str rfl Tryd.underlying9 rfl) ?_
          refine s_g rfl rfl rfl rfl rfl rfl (q_neq rfl rfl rfl) ?_
          exact s_val rfl
        ) (wanted_n rfl) rfl rfl rfl ?_
      refine s_q rfl rfl rfl (q_move rfl rfl) ?_
      refine s_or2 5 8 56 62 61 _ _ rfl rfl rfl rfl rfl rfl (fun h62 => by
          try simp at h62
          refine s_g rfl rfl rfl rfl rfl rfl (q_move rfl rfl) ?_
          refine s_g rfl rfl rfl rfl rfl rfl ((by first | exact q_lenV rfl Tryd.underlying23 rfl | exact q_len rfl Tryd.underlying23 rfl (Sl.lenOf hv (List.length_map _)) | exact q_len rfl Tryd.underlying23 rfl (Sl.lenOf hvl43 (List.length_map _)) | exact q_len rfl Tryd.underlying23 rfl (Sl.lenOf (hvq.mono hJ43) (List.length_map _)))) ?_
          refine s_g rfl rfl rfl rfl rfl rfl (q_move rfl rfl) ?_
          refine s_g rfl rfl rfl rfl rfl rfl ((by first | exact q_lenV rfl Tryd.underlying44 rfl | exact q_len rfl Tryd.underlying44 rfl (Sl.lenOf hv (List.length_map _)) | exact q_len rfl Tryd.underlying44 rfl (Sl.lenOf hvl43 (List.length_map _)) | exact q_len rfl Tryd.underlying44 rfl (Sl.lenOf (hvq.mono hJ43) (List.length_map _)))) ?_
          refine s_g rfl rfl rfl rfl rfl rfl (q_neq rfl rfl rfl) ?_
          exact s_val rfl
        ) (wanted_n rfl) rfl rfl rfl ?_
      refine s_done ?_
      refine n_then ?_
      refine t_cond rfl (fun hc3 => ?_) (fun hc3 => ?_)
      · skip
        exfalso
        simp [htn] at hc3
      · skip
        refine t_skip ?_
        refine n_then ?_
        refine t_seq ?_
        refine t_seq ?_
        refine t_region ?_
        refine l_q rfl rfl rfl (q_move rfl rfl) ?_
        refine l_q rfl rfl rfl ((by first | exact q_lenV rfl Tryd.underlying23 rfl | exact q_len rfl Tryd.underlying23 rfl (Sl.lenOf hv (List.length_map _)) | exact q_len rfl Tryd.underlying23 rfl (Sl.lenOf hvl43 (List.length_map _)) | exact q_len rfl Tryd.underlying23 rfl (Sl.lenOf (hvq.mono hJ43) (List.length_map _)))) ?_
        refine l_q rfl rfl rfl (q_move rfl rfl) ?_
        refine l_nil ?_
        refine n_then ?_
        refine t_block ?_
        refine t_loopE (ι := Nat) (fun zz => zz ≤ ts.length) (fun zz => ts.length - zz) (fun zz => [(65, .int .i64 (zz : Int))]) [(17, _), (3, _), (4, _), (0, _), (14, _), (15, _), (16, _), (18, _), (8, _), (9, _), (11, _), (62, _), (64, _)] (fun zz => J43) (fun zz => []) 0 ?_ (sub_cons rfl sub_nil) (sub_cons rfl (sub_cons rfl (sub_cons rfl (sub_cons rfl (sub_cons rfl (sub_cons rfl (sub_cons rfl (sub_cons rfl (sub_cons rfl (sub_cons rfl (sub_cons rfl (sub_cons rfl (sub_cons rfl sub_nil))))))))))))) (fun _ h => subC_st h) ?_
        · try dsimp only
          exact Nat.zero_le _
        rintro i hi
        try dsimp only at *
        have hmq : (l.map quoteB).length = l.length := List.length_map _
        refine t_seq ?_
        refine t_region ?_
        refine l_q rfl rfl rfl (q_lss rfl rfl rfl) ?_
        refine l_nil ?_
        refine n_then ?_
        refine t_seq ?_
        refine t_cond rfl (fun hc4 => ?_) (fun hc4 => ?_)
        · skip
          try simp at hc4
          refine t_skip ?_
          refine n_then ?_
          refine t_seq ?_
          refine t_block ?_
          refine t_seq ?_
          refine t_region ?_
          refine l_q rfl rfl rfl (q_move rfl rfl) ?_
          refine l_q rfl rfl rfl (q_assign rfl rfl) ?_
          refine l_nil ?_
          refine n_then ?_
          refine t_seq ?_
          refine t_qdraw mo (by kernel_rfl) (fun _ _ _ _ _ h => h) ?_
          refine s_q rfl rfl rfl (q_move rfl rfl) ?_
          refine s_q rfl rfl rfl (q_move rfl rfl) ?_
          refine s_q rfl rfl rfl ((by first | exact q_indexAddrVN rfl Tryd.underlying23 ti28 rfl rfl (by omega) | exact q_indexAddrN rfl Tryd.underlying23 ti28 rfl rfl (Sl.shape hv (List.length_map _)) (by omega) | exact q_indexAddrN rfl Tryd.underlying23 ti28 rfl rfl (Sl.shape hvl43 (List.length_map _)) (by omega) | exact q_indexAddrN rfl Tryd.underlying23 ti28 rfl rfl (Sl.shape (hvq.mono hJ43) (List.length_map _)) (by omega) | exact q_indexAddrV rfl Tryd.underlying23 ti28 rfl rfl (by omega) | exact q_indexAddr rfl Tryd.underlying23 ti28 rfl rfl (Sl.shape hv (List.length_map _)) (by omega) | exact q_indexAddr rfl Tryd.underlying23 ti28 rfl rfl (Sl.shape hvl43 (List.length_map _)) (by omega) | exact q_indexAddr rfl Tryd.underlying23 ti28 rfl rfl (Sl.shape (hvq.mono hJ43) (List.length_map _)) (by omega))) ?_
          refine s_q rfl rfl rfl (q_fieldAddr rfl Tryd.underlying28 rfl rfl ti3 rfl rfl) ?_
          refine s_q rfl rfl rfl ((by first | exact q_load_row rfl Tryd.underlying3 rfl rfl (by rfl) | exact q_load rfl Tryd.underlying3 rfl rfl (rd_st (i := k) hv (by omega)) | exact q_load rfl Tryd.underlying3 rfl rfl (rd_tokf (i := i) (j := 0) hvl43 (by omega) rfl) | exact q_load rfl Tryd.underlying3 rfl rfl (rd_tokf (i := i) (j := 1) hvl43 (by omega) rfl) | exact q_load rfl Tryd.underlying3 rfl rfl (rd_st (i := i) (hvq.mono hJ43) (by rw [List.length_map]; omega)))) ?_
          refine s_q rfl rfl rfl (q_neq rfl rfl rfl) ?_
          refine s_q rfl rfl rfl (q_move rfl rfl) ?_
          refine s_or2 10 6 74 85 84 _ _ rfl rfl rfl rfl rfl rfl (fun h85 => by
              try simp at h85
              refine s_g rfl rfl rfl rfl rfl rfl (q_move rfl rfl) ?_
              refine s_g rfl rfl rfl rfl rfl rfl (q_move rfl rfl) ?_
              refine s_g rfl rfl rfl rfl rfl rfl ((by first | exact q_indexAddrVN rfl Tryd.underlying23 ti28 rfl rfl (by omega) | exact q_indexAddrN rfl Tryd.underlying23 ti28 rfl rfl (Sl.shape hv (List.length_map _)) (by omega) | exact q_indexAddrN rfl Tryd.underlying23 ti28 rfl rfl (Sl.shape hvl43 (List.length_map _)) (by omega) | exact q_indexAddrN rfl Tryd.underlying23 ti28 rfl rfl (Sl.shape (hvq.mono hJ43) (List.length_map _)) (by omega) | exact q_indexAddrV rfl Tryd.underlying23 ti28 rfl rfl (by omega) | exact q_indexAddr rfl Tryd.underlying23 ti28 rfl rfl (Sl.shape hv (List.length_map _)) (by omega) | exact q_indexAddr rfl Tryd.underlying23 ti28 rfl rfl (Sl.shape hvl43 (List.length_map _)) (by omega) | exact q_indexAddr rfl Tryd.underlying23 ti28 rfl rfl (Sl.shape (hvq.mono hJ43) (List.length_map _)) (by omega))) ?_
              refine s_g rfl rfl rfl rfl rfl rfl (q_fieldAddr rfl Tryd.underlying28 rfl rfl ti9 rfl rfl) ?_
              refine s_g rfl rfl rfl rfl rfl rfl ((by first | exact q_load_row rfl Tryd.underlying9 rfl rfl (by rfl) | exact q_load rfl Tryd.underlying9 rfl rfl (rd_st (i := k) hv (by omega)) | exact q_load rfl Tryd.underlying9 rfl rfl (rd_tokf (i := i) (j := 0) hvl43 (by omega) rfl) | exact q_load rfl Tryd.underlying9 rfl rfl (rd_tokf (i := i) (j := 1) hvl43 (by omega) rfl) | exact q_load rfl Tryd.underlying9 rfl rfl (rd_st (i := i) (hvq.mono hJ43) (by rw [List.length_map]; omega)))) ?_
              refine s_g rfl rfl rfl rfl rfl rfl (q_move rfl rfl) ?_
              refine s_g rfl rfl rfl rfl rfl rfl (q_move rfl rfl) ?_
              refine s_g rfl rfl rfl rfl rfl rfl ((by first | exact q_indexAddrVN rfl Tryd.underlying44 ti9 rfl rfl (by omega) | exact q_indexAddrN rfl Tryd.underlying44 ti9 rfl rfl (Sl.shape hv (List.length_map _)) (by omega) | exact q_indexAddrN rfl Tryd.underlying44 ti9 rfl rfl (Sl.shape hvl43 (List.length_map _)) (by omega) | exact q_indexAddrN rfl Tryd.underlying44 ti9 rfl rfl (Sl.shape (hvq.mono hJ43) (List.length_map _)) (by omega) | exact q_indexAddrV rfl Tryd.underlying44 ti9 rfl rfl (by omega) | exact q_indexAddr rfl Tryd.underlying44 ti9 rfl rfl (Sl.shape hv (List.length_map _)) (by omega) | exact q_indexAddr rfl Tryd.underlying44 ti9 rfl rfl (Sl.shape hvl43 (List.length_map _)) (by omega) | exact q_indexAddr rfl Tryd.underlying44 ti9 rfl rfl (Sl.shape (hvq.mono hJ43) (List.length_map _)) (by omega))) ?_
              refine s_g rfl rfl rfl rfl rfl rfl ((by first | exact q_load_row rfl Tryd.underlying9 rfl rfl (by rfl) | exact q_load rfl Tryd.underlying9 rfl rfl (rd_st (i := k) hv (by omega)) | exact q_load rfl Tryd.underlying9 rfl rfl (rd_tokf (i := i) (j := 0) hvl43 (by omega) rfl) | exact q_load rfl Tryd.underlying9 rfl rfl (rd_tokf (i := i) (j := 1) hvl43 (by omega) rfl) | exact q_load rfl Tryd.underlying9 rfl rfl (rd_st (i := i) (hvq.mono hJ43) (by rw [List.length_map]; omega)))) ?_
              refine s_g rfl rfl rfl rfl rfl rfl (q_neq_str rfl rfl rfl) ?_
              exact s_val rfl
            ) (wanted_n rfl) rfl rfl rfl ?_
          refine s_done ?_
          refine n_then ?_
          refine t_cond rfl (fun hc5 => ?_) (fun hc5 => ?_)
          · skip
            exfalso
            have h5 := hc5
            rw [Bool.or_eq_true, decide_eq_true_eq, decide_eq_true_eq] at h5
            obtain ⟨k1, k2⟩ := htt i (by omega)
            rcases h5 with h5 | h5
            · omega
            · exact h5 (by rw [k2, nth_mapq (by omega)])
          · skip
            refine t_skip ?_
            refine n_block ?_
            refine n_then ?_
            refine t_region ?_
            refine l_q rfl rfl rfl (q_add64 rfl rfl rfl (by omega)) ?_
            refine l_q rfl rfl rfl (q_move rfl rfl) ?_
            refine l_nil ?_
            refine n_roundE (i + 1) ?_ ?_ (sub_cons rfl sub_nil) (sub_cons rfl (sub_cons rfl (sub_cons rfl (sub_cons rfl (sub_cons rfl (sub_cons rfl (sub_cons rfl (sub_cons rfl (sub_cons rfl (sub_cons rfl (sub_cons rfl (sub_cons rfl (sub_cons rfl sub_nil))))))))))))) (fun _ h => by try dsimp only; exact subC_st h)
            · try dsimp only
              omega
            · try dsimp only
              omega
        · skip
          try simp at hc4
          refine t_exit ?_
          refine n_exit_then ?_
          refine n_exit_then ?_
          refine n_exit_block ?_
          refine n_then ?_
          refine t_seq ?_
          refine t_region ?_
          refine l_q rfl rfl rfl (q_assign rfl rfl) ?_
          refine l_nil ?_
          refine n_then ?_
          refine t_ret ?_
          refine n_ret1 rfl rfl (fun w' hw => ?_)
          -- leaf 1
          exact ⟨rfl, (hw.less (hJq.trans hJ43)).below⟩
end Go.Tri
