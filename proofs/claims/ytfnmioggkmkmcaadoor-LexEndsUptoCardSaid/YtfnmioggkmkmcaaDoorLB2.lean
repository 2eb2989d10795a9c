/-
  The statements: awake, LexStands.
-/
import Derived.Test.YtfnmioggkmkmcaaDoorLB1
import Derived.Test.YtfnmioggkmkmcaaDoorPLex12
namespace Go.Tri
open Go.Proofs Go.RowKit
theorem rds_tok {w0 : World} {I : Look} {H : List HA} {v : Value} {l : List Tok} (h : Sl I 5 v (l.map tokC)) {i : Nat} (hi : i < l.length) : Rds w0 I H (adr v).block ((adr v).off + i * 5) (tokC (nth l i tok0)) := h.rds (map_getD l tokC tok0 hi)
theorem rd_tokf {w0 : World} {I : Look} {H : List HA} {v : Value} {l : List Tok} (h : Sl I 5 v (l.map tokC)) {i j : Nat} {u : Value} (hi : i < l.length) (hu : (tokC (nth l i tok0))[j]? = some u) : Rd w0 I H (adr v).block ((adr v).off + i * 5 + j) u := h.rd (map_getD l tokC tok0 hi) hu
theorem or_not {s : List UInt8} {a : Nat} {t : Tok} (h : (a ≤ t.pos ∧ t.pos + t.text.length ≤ s.length ∧ (s.drop t.pos).take t.text.length = t.text ∧ t.text ≠ [] ∧ 1 ≤ t.kind ∧ t.kind ≤ 4 ∧ gapB s a t.pos))
    (hc : (decide ((t.pos : Int) < (a : Int)) || decide ((s.length : Int) - (t.text.length : Int) < (t.pos : Int)) || decide ((s.drop ((t.pos : Int)).toNat).take (((t.pos : Int) + (t.text.length : Int)).toNat - ((t.pos : Int)).toNat) ≠ t.text) || decide (t.text = []) || decide ((t.kind : Int) < 1) || decide (4 < (t.kind : Int))) = true) : False := by
  obtain ⟨h1, h2, h3, h4, h5, h6, _⟩ := h
  simp only [Bool.or_eq_true, decide_eq_true_eq] at hc
  rcases hc with ((((h | h) | h) | h) | h) | h
  · omega
  · omega
  · apply h
    rw [show ((t.pos : Int)).toNat = t.pos by omega, show ((t.pos : Int) + (t.text.length : Int)).toNat - t.pos = t.text.length by omega]
    exact h3
  · exact h4 h
  · omega
  · omega
set_option maxRecDepth 10000 in
theorem awake_pure (w : World) (hG : EnvI (look w)) : Pure Tryd.prog 9 [] w (.bool true) := by
  refine enter Tryd.func9 rfl Tryd.ntmps9 rfl (St.start w (look w) (Le.refl _)) ?_
  refine t_seq ?_
  refine t_region ?_
  refine l_q rfl rfl rfl (q_assign rfl rfl) ?_
  refine l_nil ?_
  refine n_then ?_
  refine t_seq ?_
  refine t_region ?_
  refine l_e rfl rfl rfl (eff_call rfl rfl rfl Tryd.func10 (by kernel_rfl) rfl (fun w hw => line_calls (awakeS) (0) _ _ _ w (by decide) (hG) hw)) ?_
  rintro _ J6 _ ⟨hJ6, rfl, vl6, rfl, hvl6⟩
  rw [awake_line] at hvl6 ⊢
  dsimp only at hvl6
  have hal : awakeT.length = 5 := rfl
  refine l_q rfl rfl rfl (q_move rfl rfl) ?_
  refine l_q rfl rfl rfl (q_extract rfl rfl rfl) ?_
  refine l_q rfl rfl rfl (q_extract rfl rfl rfl) ?_
  refine l_q rfl rfl rfl (q_extract rfl rfl rfl) ?_
  refine l_q rfl rfl rfl (q_extract rfl rfl rfl) ?_
  refine l_q rfl rfl rfl (q_assign rfl rfl) ?_
  refine l_q rfl rfl rfl (q_assign rfl rfl) ?_
  refine l_q rfl rfl rfl (q_assign rfl rfl) ?_
  refine l_q rfl rfl rfl (q_assign rfl rfl) ?_
  refine l_nil ?_
  refine n_then ?_
  refine t_seq ?_
  refine t_qreg ?_
  refine s_q rfl rfl rfl (q_move rfl rfl) ?_
  refine s_q rfl rfl rfl (q_eql rfl rfl rfl) ?_
  refine s_q rfl rfl rfl (q_move rfl rfl) ?_
  refine s_and2 2 2 13 16 15 _ _ rfl rfl rfl rfl rfl rfl (fun h16 => by
      try simp at h16
      refine s_g rfl rfl rfl rfl rfl rfl (q_move rfl rfl) ?_
      refine s_g rfl rfl rfl rfl rfl rfl (q_eql rfl rfl rfl) ?_
      exact s_val rfl
    ) (wanted_n rfl) rfl rfl rfl ?_
  refine s_q rfl rfl rfl (q_move rfl rfl) ?_
  refine s_and2 3 6 17 21 20 _ _ rfl rfl rfl rfl rfl rfl (fun h21 => by
      try simp at h21
      refine s_g rfl rfl rfl rfl rfl rfl (q_move rfl rfl) ?_
      refine s_g rfl rfl rfl rfl rfl rfl ((by first | exact q_lenV rfl Tryd.underlying23 rfl | exact q_len rfl Tryd.underlying23 rfl (Sl.lenOf hvl6 (List.length_map _)))) ?_
      refine s_g rfl rfl rfl rfl rfl rfl (q_eql rfl rfl rfl) ?_
      exact s_val rfl
    ) (wanted_n rfl) rfl rfl rfl ?_
  refine s_q rfl rfl rfl (q_move rfl rfl) ?_
  refine s_and2 5 11 22 28 27 _ _ rfl rfl rfl rfl rfl rfl (fun h28 => by
      try simp at h28
      refine s_g rfl rfl rfl rfl rfl rfl (q_move rfl rfl) ?_
      refine s_g rfl rfl rfl rfl rfl rfl ((by first | exact q_indexAddrVN rfl Tryd.underlying23 ti28 rfl rfl (by omega) | exact q_indexAddrN rfl Tryd.underlying23 ti28 rfl rfl (Sl.shape hvl6 (List.length_map _)) (by omega) | exact q_indexAddrV rfl Tryd.underlying23 ti28 rfl rfl (by omega) | exact q_indexAddr rfl Tryd.underlying23 ti28 rfl rfl (Sl.shape hvl6 (List.length_map _)) (by omega))) ?_
      refine s_g rfl rfl rfl rfl rfl rfl (q_fieldAddr rfl Tryd.underlying28 rfl rfl ti9 rfl rfl) ?_
      refine s_g rfl rfl rfl rfl rfl rfl ((by first | exact q_load_row rfl Tryd.underlying9 rfl rfl (by rfl) | exact q_load rfl Tryd.underlying9 rfl rfl (rd_tokf (i := 1) (j := 1) hvl6 (by decide) rfl) | exact q_load rfl Tryd.underlying9 rfl rfl (rd_tokf (i := 2) (j := 0) hvl6 (by decide) rfl) | exact q_load rfl Tryd.underlying9 rfl rfl (rd_tokf (i := 4) (j := 0) hvl6 (by decide) rfl))) ?_
      refine s_g rfl rfl rfl rfl rfl rfl (q_eql_str rfl rfl rfl) ?_
      exact s_val rfl
    ) (wanted_n rfl) rfl rfl rfl ?_
  refine s_q rfl rfl rfl (q_move rfl rfl) ?_
  refine s_and2 5 18 29 35 34 _ _ rfl rfl rfl rfl rfl rfl (fun h35 => by
      try simp at h35
      refine s_g rfl rfl rfl rfl rfl rfl (q_move rfl rfl) ?_
      refine s_g rfl rfl rfl rfl rfl rfl ((by first | exact q_indexAddrVN rfl Tryd.underlying23 ti28 rfl rfl (by omega) | exact q_indexAddrN rfl Tryd.underlying23 ti28 rfl rfl (Sl.shape hvl6 (List.length_map _)) (by omega) | exact q_indexAddrV rfl Tryd.underlying23 ti28 rfl rfl (by omega) | exact q_indexAddr rfl Tryd.underlying23 ti28 rfl rfl (Sl.shape hvl6 (List.length_map _)) (by omega))) ?_
      refine s_g rfl rfl rfl rfl rfl rfl (q_fieldAddr rfl Tryd.underlying28 rfl rfl ti3 rfl rfl) ?_
      refine s_g rfl rfl rfl rfl rfl rfl ((by first | exact q_load_row rfl Tryd.underlying3 rfl rfl (by rfl) | exact q_load rfl Tryd.underlying3 rfl rfl (rd_tokf (i := 1) (j := 1) hvl6 (by decide) rfl) | exact q_load rfl Tryd.underlying3 rfl rfl (rd_tokf (i := 2) (j := 0) hvl6 (by decide) rfl) | exact q_load rfl Tryd.underlying3 rfl rfl (rd_tokf (i := 4) (j := 0) hvl6 (by decide) rfl))) ?_
      refine s_g rfl rfl rfl rfl rfl rfl (q_eql rfl rfl rfl) ?_
      exact s_val rfl
    ) (wanted_n rfl) rfl rfl rfl ?_
  refine s_q rfl rfl rfl (q_move rfl rfl) ?_
  refine s_and2 5 25 36 42 41 _ _ rfl rfl rfl rfl rfl rfl (fun h42 => by
      try simp at h42
      refine s_g rfl rfl rfl rfl rfl rfl (q_move rfl rfl) ?_
      refine s_g rfl rfl rfl rfl rfl rfl ((by first | exact q_indexAddrVN rfl Tryd.underlying23 ti28 rfl rfl (by omega) | exact q_indexAddrN rfl Tryd.underlying23 ti28 rfl rfl (Sl.shape hvl6 (List.length_map _)) (by omega) | exact q_indexAddrV rfl Tryd.underlying23 ti28 rfl rfl (by omega) | exact q_indexAddr rfl Tryd.underlying23 ti28 rfl rfl (Sl.shape hvl6 (List.length_map _)) (by omega))) ?_
      refine s_g rfl rfl rfl rfl rfl rfl (q_fieldAddr rfl Tryd.underlying28 rfl rfl ti3 rfl rfl) ?_
      refine s_g rfl rfl rfl rfl rfl rfl ((by first | exact q_load_row rfl Tryd.underlying3 rfl rfl (by rfl) | exact q_load rfl Tryd.underlying3 rfl rfl (rd_tokf (i := 1) (j := 1) hvl6 (by decide) rfl) | exact q_load rfl Tryd.underlying3 rfl rfl (rd_tokf (i := 2) (j := 0) hvl6 (by decide) rfl) | exact q_load rfl Tryd.underlying3 rfl rfl (rd_tokf (i := 4) (j := 0) hvl6 (by decide) rfl))) ?_
      refine s_g rfl rfl rfl rfl rfl rfl (q_eql rfl rfl rfl) ?_
      exact s_val rfl
    ) (wanted_n rfl) rfl rfl rfl ?_
  refine s_q rfl rfl rfl (q_move rfl rfl) ?_
  refine s_q rfl rfl rfl (q_pick_b rfl rfl) ?_
  refine s_q rfl rfl rfl (q_assign rfl rfl) ?_
  refine s_done ?_
  refine n_then ?_
  refine t_ret ?_
  refine n_ret1 rfl rfl (fun w' hw => ?_)
  -- leaf 0
  refine ⟨?_, (hw.less hJ6).below⟩
  refine congrArg (fun b => Ending.returned (Value.bool b)) (?_ : _ = true)
  decide +kernel
set_option maxRecDepth 10000 in
theorem lexStands_pure (s : List UInt8) (w : World) (hs : s.length ≤ 1048576) (hG : EnvI (look w)) : Pure Tryd.prog 3 [str s] w (.bool true) := by
  refine enter Tryd.func3 rfl Tryd.ntmps3 rfl (St.start w (look w) (Le.refl _)) ?_
  refine t_seq ?_
  refine t_region ?_
  refine l_q rfl rfl rfl (q_assign rfl rfl) ?_
  refine l_nil ?_
  refine n_then ?_
  refine t_seq ?_
  refine t_seq ?_
  refine t_region ?_
  refine l_q rfl rfl rfl (quiet_call rfl rfl rfl Tryd.func9 (by kernel_rfl) rfl ((fun w hw => awake_pure w (hG.mono hw.le)))) ?_
  refine l_q rfl rfl rfl (q_not rfl rfl) ?_
  refine l_nil ?_
  refine n_then ?_
  refine t_cond rfl (fun hc0 => ?_) (fun hc0 => ?_)
  · skip
    try simp at hc0
  · skip
    try simp at hc0
    refine t_skip ?_
    refine n_then ?_
    refine t_seq ?_
    refine t_region ?_
    refine l_q rfl rfl rfl (q_move rfl rfl) ?_
    refine l_e rfl rfl rfl (eff_call rfl rfl rfl Tryd.func10 (by kernel_rfl) rfl (fun w hw => line_calls (s) (0) _ _ _ w (by omega) (hG) hw)) ?_
    rintro _ J17 _ ⟨hJ17, rfl, vl17, rfl, hvl17⟩
    obtain ⟨lv, hlv⟩ : ∃ lv, lv = lineP s 0 := ⟨_, rfl⟩
    rw [← hlv] at hvl17 ⊢
    refine l_q rfl rfl rfl (q_move rfl rfl) ?_
    refine l_q rfl rfl rfl (q_extract rfl rfl rfl) ?_
    refine l_q rfl rfl rfl (q_extract rfl rfl rfl) ?_
    refine l_q rfl rfl rfl (q_extract rfl rfl rfl) ?_
    refine l_q rfl rfl rfl (q_extract rfl rfl rfl) ?_
    refine l_q rfl rfl rfl (q_assign rfl rfl) ?_
    refine l_q rfl rfl rfl (q_assign rfl rfl) ?_
    refine l_q rfl rfl rfl (q_assign rfl rfl) ?_
    refine l_q rfl rfl rfl (q_assign rfl rfl) ?_
    refine l_nil ?_
    refine n_then ?_
    refine t_seq ?_
    refine t_seq ?_
    refine t_region ?_
    refine l_q rfl rfl rfl (q_move rfl rfl) ?_
    refine l_q rfl rfl rfl (q_neq rfl rfl rfl) ?_
    refine l_nil ?_
    refine n_then ?_
    refine t_cond rfl (fun hc1 => ?_) (fun hc1 => ?_)
    · skip
      try simp at hc1
      have he : lv.err ≠ 0 := by omega
      have hze := lineP_err (s := s) (i := 0) (by rw [← hlv]; exact he)
      rw [← hlv] at hze
      refine t_seq ?_
      refine t_qreg ?_
      refine s_q rfl rfl rfl (q_move rfl rfl) ?_
      refine s_q rfl rfl rfl ((by first | exact q_lenV rfl Tryd.underlying23 rfl | exact q_len rfl Tryd.underlying23 rfl (Sl.lenOf hvl17 (List.length_map _)))) ?_
      refine s_q rfl rfl rfl (q_eql rfl rfl rfl) ?_
      refine s_q rfl rfl rfl (q_move rfl rfl) ?_
      refine s_and2 2 3 27 30 29 _ _ rfl rfl rfl rfl rfl rfl (fun h30 => by
          try simp at h30
          refine s_g rfl rfl rfl rfl rfl rfl (q_move rfl rfl) ?_
          refine s_g rfl rfl rfl rfl rfl rfl (q_eql rfl rfl rfl) ?_
          exact s_val rfl
        ) (wanted_n rfl) rfl rfl rfl ?_
      refine s_q rfl rfl rfl (q_assign rfl rfl) ?_
      refine s_done ?_
      refine n_then ?_
      refine t_ret ?_
      refine n_ret_then ?_
      refine n_ret1 rfl rfl (fun w' hw => ?_)
      -- leaf 0
      refine ⟨?_, (hw.less hJ17).below⟩
      rw [hze.1, hze.2]; rfl
    · skip
      try simp at hc1
      have he : lv.err = 0 := by omega
      have hsta := stands (s := s) (by rw [← hlv]; exact he)
      rw [← hlv] at hsta
      have hsl := stand_len hsta
      refine t_skip ?_
      refine n_then ?_
      refine t_seq ?_
      refine t_region ?_
      refine l_q rfl rfl rfl (q_assign rfl rfl) ?_
      refine l_nil ?_
      refine n_then ?_
      refine t_seq ?_
      refine t_seq ?_
      refine t_region ?_
      refine l_q rfl rfl rfl (q_move rfl rfl) ?_
      refine l_q rfl rfl rfl ((by first | exact q_lenV rfl Tryd.underlying23 rfl | exact q_len rfl Tryd.underlying23 rfl (Sl.lenOf hvl17 (List.length_map _)))) ?_
      refine l_q rfl rfl rfl (q_move rfl rfl) ?_
      refine l_nil ?_
      refine n_then ?_
      refine t_block ?_
      refine t_loopE (ι := Nat × Nat) (fun zz => zz.1 ≤ lv.toks.length ∧ StandP s zz.2 (lv.toks.drop zz.1) lv.fin) (fun zz => lv.toks.length - zz.1) (fun zz => [(33, .int .i64 (zz.1 : Int)), (7, .int .i64 (zz.2 : Int))]) [(0, _), (14, _), (3, _), (4, _), (6, _), (23, _), (31, _), (32, _)] (fun zz => J17) (fun zz => []) (0, 0) ?_ (sub_cons rfl (sub_cons rfl sub_nil)) (sub_cons rfl (sub_cons rfl (sub_cons rfl (sub_cons rfl (sub_cons rfl (sub_cons rfl (sub_cons rfl (sub_cons rfl sub_nil)))))))) (fun _ h => subC_st h) ?_
      · try dsimp only
        exact ⟨Nat.zero_le _, hsta⟩
      rintro ⟨n, a⟩ ⟨hnl, hst⟩
      try dsimp only at *
      refine t_seq ?_
      refine t_region ?_
      refine l_q rfl rfl rfl (q_lss rfl rfl rfl) ?_
      refine l_nil ?_
      refine n_then ?_
      refine t_seq ?_
      refine t_cond rfl (fun hc2 => ?_) (fun hc2 => ?_)
      · skip
        try simp at hc2
        have hn : n < lv.toks.length := by omega
        have hst2 := hst.at hn
        obtain ⟨hs1, hs2, hs3, hs4, hs5, hs6, hs7⟩ := hst2.1
        refine t_skip ?_
        refine n_then ?_
        refine t_seq ?_
        refine t_block ?_
        refine t_seq ?_
        refine t_region ?_
        refine l_q rfl rfl rfl ((by first | exact q_indexAddrVN rfl Tryd.underlying23 ti28 rfl rfl (by omega) | exact q_indexAddrN rfl Tryd.underlying23 ti28 rfl rfl (Sl.shape hvl17 (List.length_map _)) (by omega) | exact q_indexAddrV rfl Tryd.underlying23 ti28 rfl rfl (by omega) | exact q_indexAddr rfl Tryd.underlying23 ti28 rfl rfl (Sl.shape hvl17 (List.length_map _)) (by omega))) ?_
        refine l_q rfl rfl rfl ((by first | exact q_load_rowA rfl Tryd.underlying28 ti28 rfl rfl rfl | exact q_load_agg rfl Tryd.underlying28 ti28 rfl rfl (rds_tok (i := n) hvl17 (by omega)))) ?_
        refine l_e rfl rfl rfl (e_alloc rfl ti28 rfl) ?_
        rintro _ _ _ ⟨b9, rfl, rfl, rfl⟩
        refine l_e0 rfl rfl ((by first | exact e_store_all rfl ti28 rfl rfl rfl (by first | exact chC_ones _ | exact pcC_ones _ | exact tokC_ones _ | simp [Value.oneCell', str, u8]) rfl | exact e_store_agg rfl ti28 rfl rfl rfl (by first | exact chC_ones _ | exact pcC_ones _ | exact tokC_ones _ | simp [Value.oneCell', str, u8]) rfl)) ?_
        rintro _ _ _ ⟨rfl, rfl⟩
        refine l_heap (H' := row b9 28 (tokC (nth lv.toks n tok0)) :: _) ?_ (fun _ h => h)
        refine l_nil ?_
        refine n_then ?_
        refine t_seq ?_
        refine t_seq ?_
        refine t_qdraw mo (by kernel_rfl) (fun _ _ _ _ _ h => h) ?_
        refine s_q rfl rfl rfl (q_fieldAddr rfl Tryd.underlying28 rfl rfl ti3 rfl rfl) ?_
        refine s_q rfl rfl rfl (q_load_row rfl Tryd.underlying3 rfl rfl (by rfl)) ?_
        refine s_q rfl rfl rfl (q_move rfl rfl) ?_
        refine s_q rfl rfl rfl (q_lss rfl rfl rfl) ?_
        refine s_q rfl rfl rfl (q_move rfl rfl) ?_
        refine s_or2 9 4 41 51 50 _ _ rfl rfl rfl rfl rfl rfl (fun h51 => by
            try simp at h51
            refine s_g rfl rfl rfl rfl rfl rfl (q_fieldAddr rfl Tryd.underlying28 rfl rfl ti3 rfl rfl) ?_
            refine s_g rfl rfl rfl rfl rfl rfl (q_load_row rfl Tryd.underlying3 rfl rfl (by rfl)) ?_
            refine s_g rfl rfl rfl rfl rfl rfl (q_move rfl rfl) ?_
            refine s_g rfl rfl rfl rfl rfl rfl (q_len_str rfl Tryd.underlying9 rfl) ?_
            refine s_g rfl rfl rfl rfl rfl rfl (q_fieldAddr rfl Tryd.underlying28 rfl rfl ti9 rfl rfl) ?_
            refine s_g rfl rfl rfl rfl rfl rfl (q_load_row rfl Tryd.underlying9 rfl rfl (by rfl)) ?_
            refine s_g rfl rfl rfl rfl rfl rfl (q_len_str rfl Tryd.underlying9 rfl) ?_
            refine s_g rfl rfl rfl rfl rfl rfl (q_sub64 rfl rfl rfl (by omega)) ?_
            refine s_g rfl rfl rfl rfl rfl rfl (q_gtr rfl rfl rfl) ?_
            exact s_val rfl
          ) (wanted_n rfl) rfl rfl rfl ?_
        refine s_q rfl rfl rfl (q_move rfl rfl) ?_
        refine s_or2 13 15 52 66 65 _ _ rfl rfl rfl rfl rfl rfl (fun h66 => by
            try simp at h66
            refine s_g rfl rfl rfl rfl rfl rfl (q_move rfl rfl) ?_
            refine s_g rfl rfl rfl rfl rfl rfl (q_fieldAddr rfl Tryd.underlying28 rfl rfl ti3 rfl rfl) ?_
            refine s_g rfl rfl rfl rfl rfl rfl (q_load_row rfl Tryd.underlying3 rfl rfl (by rfl)) ?_
            refine s_g rfl rfl rfl rfl rfl rfl (q_fieldAddr rfl Tryd.underlying28 rfl rfl ti3 rfl rfl) ?_
            refine s_g rfl rfl rfl rfl rfl rfl (q_load_row rfl Tryd.underlying3 rfl rfl (by rfl)) ?_
            refine s_g rfl rfl rfl rfl rfl rfl (q_fieldAddr rfl Tryd.underlying28 rfl rfl ti9 rfl rfl) ?_
            refine s_g rfl rfl rfl rfl rfl rfl (q_load_row rfl Tryd.underlying9 rfl rfl (by rfl)) ?_
            refine s_g rfl rfl rfl rfl rfl rfl (q_len_str rfl Tryd.underlying9 rfl) ?_
            refine s_g rfl rfl rfl rfl rfl rfl (q_add64 rfl rfl rfl (by omega)) ?_
            refine s_g rfl rfl rfl rfl rfl rfl (q_slice_str rfl Tryd.underlying9 rfl rfl rfl (by omega)) ?_
            refine s_g rfl rfl rfl rfl rfl rfl (q_fieldAddr rfl Tryd.underlying28 rfl rfl ti9 rfl rfl) ?_
            refine s_g rfl rfl rfl rfl rfl rfl (q_load_row rfl Tryd.underlying9 rfl rfl (by rfl)) ?_
            refine s_g rfl rfl rfl rfl rfl rfl (q_neq_str rfl rfl rfl) ?_
            exact s_val rfl
          ) (wanted_n rfl) rfl rfl rfl ?_
        refine s_q rfl rfl rfl (q_move rfl rfl) ?_
        refine s_or2 3 30 67 71 70 _ _ rfl rfl rfl rfl rfl rfl (fun h71 => by
            try simp at h71
            refine s_g rfl rfl rfl rfl rfl rfl (q_fieldAddr rfl Tryd.underlying28 rfl rfl ti9 rfl rfl) ?_
            refine s_g rfl rfl rfl rfl rfl rfl (q_load_row rfl Tryd.underlying9 rfl rfl (by rfl)) ?_
            refine s_g rfl rfl rfl rfl rfl rfl (q_eql_str rfl rfl rfl) ?_
            exact s_val rfl
          ) (wanted_n rfl) rfl rfl rfl ?_
        refine s_q rfl rfl rfl (q_move rfl rfl) ?_
        refine s_or2 3 35 72 76 75 _ _ rfl rfl rfl rfl rfl rfl (fun h76 => by
            try simp at h76
            refine s_g rfl rfl rfl rfl rfl rfl (q_fieldAddr rfl Tryd.underlying28 rfl rfl ti3 rfl rfl) ?_
            refine s_g rfl rfl rfl rfl rfl rfl (q_load_row rfl Tryd.underlying3 rfl rfl (by rfl)) ?_
            refine s_g rfl rfl rfl rfl rfl rfl (q_lss rfl rfl rfl) ?_
            exact s_val rfl
          ) (wanted_n rfl) rfl rfl rfl ?_
        refine s_q rfl rfl rfl (q_move rfl rfl) ?_
        refine s_or2 3 40 77 81 80 _ _ rfl rfl rfl rfl rfl rfl (fun h81 => by
            try simp at h81
            refine s_g rfl rfl rfl rfl rfl rfl (q_fieldAddr rfl Tryd.underlying28 rfl rfl ti3 rfl rfl) ?_
            refine s_g rfl rfl rfl rfl rfl rfl (q_load_row rfl Tryd.underlying3 rfl rfl (by rfl)) ?_
            refine s_g rfl rfl rfl rfl rfl rfl (q_gtr rfl rfl rfl) ?_
            exact s_val rfl
          ) (wanted_n rfl) rfl rfl rfl ?_
        refine s_done ?_
        refine n_then ?_
        refine t_cond rfl (fun hc3 => ?_) (fun hc3 => ?_)
        · skip
          exact (or_not hst2.1 hc3).elim
        · skip
          refine t_skip ?_
          refine n_then ?_
          refine t_seq ?_
          refine t_region ?_
          refine l_q rfl rfl rfl (q_assign rfl rfl) ?_
          refine l_nil ?_
          refine n_then ?_
          refine t_seq ?_
          refine t_seq ?_
          refine t_region ?_
          refine l_q rfl rfl rfl (q_move rfl rfl) ?_
          refine l_q rfl rfl rfl (q_assign rfl rfl) ?_
          refine l_nil ?_
          refine n_then ?_
          refine t_block ?_
          refine t_loopE (ι := Nat × Bool) (fun zz => a ≤ zz.1 ∧ zz.1 ≤ (nth lv.toks n tok0).pos ∧ ∀ k, a ≤ k → k < zz.1 → nth s k 0 = 35 → zz.2 = true) (fun zz => (nth lv.toks n tok0).pos - zz.1) (fun zz => [(11, .int .i64 (zz.1 : Int)), (10, .bool zz.2)]) [(33, _), (7, _), (0, _), (14, _), (3, _), (4, _), (6, _), (23, _), (31, _), (32, _), (34, _), (9, _), (81, _)] (fun zz => J17) (fun zz => [row b9 28 (tokC (nth lv.toks n tok0))]) (a, false) ?_ (sub_cons rfl (sub_cons rfl sub_nil)) (sub_cons rfl (sub_cons rfl (sub_cons rfl (sub_cons rfl (sub_cons rfl (sub_cons rfl (sub_cons rfl (sub_cons rfl (sub_cons rfl (sub_cons rfl (sub_cons rfl (sub_cons rfl (sub_cons rfl sub_nil))))))))))))) (fun _ h => subC_st h) ?_
          · try dsimp only
            exact ⟨Nat.le_refl _, hs1, fun k h1 h2 => absurd h2 (by omega)⟩
          rintro ⟨i, rem⟩ ⟨hi1, hi2, hrem⟩
          try dsimp only at *
          refine t_seq ?_
          refine t_seq ?_
          refine t_region ?_
          refine l_q rfl rfl rfl (q_move rfl rfl) ?_
          refine l_q rfl rfl rfl (q_fieldAddr rfl Tryd.underlying28 rfl rfl ti3 rfl rfl) ?_
          refine l_q rfl rfl rfl (q_load_row rfl Tryd.underlying3 rfl rfl (by rfl)) ?_
          refine l_q rfl rfl rfl (q_lss rfl rfl rfl) ?_
          refine l_nil ?_
          refine n_then ?_
          refine t_cond rfl (fun hc4 => ?_) (fun hc4 => ?_)
          · skip
            try simp at hc4
            refine t_skip ?_
            refine n_then ?_
            refine t_seq ?_
            refine t_block ?_
            refine t_seq ?_
            refine t_region ?_
            refine l_q rfl rfl rfl (q_move rfl rfl) ?_
            refine l_q rfl rfl rfl (q_move rfl rfl) ?_
            refine l_q rfl rfl rfl ((by first | exact q_index_strN rfl Tryd.underlying9 rfl rfl (by omega) | exact q_index_str rfl Tryd.underlying9 rfl rfl (by omega))) ?_
            refine l_q rfl rfl rfl (q_assign rfl rfl) ?_
            refine l_nil ?_
            refine n_then ?_
            refine t_seq ?_
            refine t_qreg ?_
            refine s_q rfl rfl rfl (q_move rfl rfl) ?_
            refine s_q rfl rfl rfl (q_move rfl rfl) ?_
            refine s_or2 2 1 93 96 95 _ _ rfl rfl rfl rfl rfl rfl (fun h96 => by
                try simp at h96
                refine s_g rfl rfl rfl rfl rfl rfl (q_move rfl rfl) ?_
                refine s_g rfl rfl rfl rfl rfl rfl (q_eql_u8c rfl rfl rfl rfl) ?_
                exact s_val rfl
              ) (wanted_n rfl) rfl rfl rfl ?_
            refine s_q rfl rfl rfl (q_assign rfl rfl) ?_
            refine s_done ?_
            refine n_then ?_
            refine t_seq ?_
            refine t_qreg ?_
            refine s_q rfl rfl rfl (q_move rfl rfl) ?_
            refine s_q rfl rfl rfl (q_not rfl rfl) ?_
            refine s_q rfl rfl rfl (q_move rfl rfl) ?_
            refine s_and2 2 2 99 102 101 _ _ rfl rfl rfl rfl rfl rfl (fun h102 => by
                try simp at h102
                refine s_g rfl rfl rfl rfl rfl rfl (q_move rfl rfl) ?_
                refine s_g rfl rfl rfl rfl rfl rfl (q_neq_u8c rfl rfl rfl rfl) ?_
                exact s_val rfl
              ) (wanted_n rfl) rfl rfl rfl ?_
            refine s_q rfl rfl rfl (q_move rfl rfl) ?_
            refine s_and2 2 6 103 106 105 _ _ rfl rfl rfl rfl rfl rfl (fun h106 => by
                try simp at h106
                refine s_g rfl rfl rfl rfl rfl rfl (q_move rfl rfl) ?_
                refine s_g rfl rfl rfl rfl rfl rfl (q_neq_u8c rfl rfl rfl rfl) ?_
                exact s_val rfl
              ) (wanted_n rfl) rfl rfl rfl ?_
            refine s_q rfl rfl rfl (q_move rfl rfl) ?_
            refine s_and2 2 10 107 110 109 _ _ rfl rfl rfl rfl rfl rfl (fun h110 => by
                try simp at h110
                refine s_g rfl rfl rfl rfl rfl rfl (q_move rfl rfl) ?_
                refine s_g rfl rfl rfl rfl rfl rfl (q_neq_u8c rfl rfl rfl rfl) ?_
                exact s_val rfl
              ) (wanted_n rfl) rfl rfl rfl ?_
            refine s_q rfl rfl rfl (q_move rfl rfl) ?_
            refine s_and2 2 14 111 114 113 _ _ rfl rfl rfl rfl rfl rfl (fun h114 => by
                try simp at h114
                refine s_g rfl rfl rfl rfl rfl rfl (q_move rfl rfl) ?_
                refine s_g rfl rfl rfl rfl rfl rfl (q_neq_u8c rfl rfl rfl rfl) ?_
                exact s_val rfl
              ) (wanted_n rfl) rfl rfl rfl ?_
            refine s_done ?_
            refine n_then ?_
            refine t_cond rfl (fun hc5 => ?_) (fun hc5 => ?_)
            · skip
              exfalso
              have h5 : (!(rem || decide (nth s i 0 = 35)) && decide (nth s i 0 ≠ 9) && decide (nth s i 0 ≠ 32) && decide (nth s i 0 ≠ 92) && decide (nth s i 0 ≠ 10)) = true := hc5
              simp only [Bool.and_eq_true, decide_eq_true_eq, Bool.not_eq_true', Bool.or_eq_false_iff, decide_eq_false_iff_not] at h5
              rcases hs7 i hi1 (by omega) with ⟨k, k1, k2, k3⟩ | h | h | h | h
              · rcases Nat.lt_or_eq_of_le k2 with h | h
                · rw [hrem k k1 h k3] at h5; exact absurd h5.1.1.1.1.1 (by simp)
                · subst h; exact h5.1.1.1.1.2 k3
              · exact h5.1.1.1.2 h
              · exact h5.1.1.2 h
              · exact h5.1.2 h
              · exact h5.2 h
            · skip
              refine t_skip ?_
              refine n_block ?_
              refine n_then ?_
              refine t_region ?_
              refine l_q rfl rfl rfl (q_move rfl rfl) ?_
              refine l_q rfl rfl rfl (q_add64 rfl rfl rfl (by omega)) ?_
              refine l_q rfl rfl rfl (q_assign rfl rfl) ?_
              refine l_nil ?_
              refine n_roundE ((i + 1, rem || decide (nth s i 0 = 35))) ?_ ?_ (sub_cons rfl (sub_cons rfl sub_nil)) (sub_cons rfl (sub_cons rfl (sub_cons rfl (sub_cons rfl (sub_cons rfl (sub_cons rfl (sub_cons rfl (sub_cons rfl (sub_cons rfl (sub_cons rfl (sub_cons rfl (sub_cons rfl (sub_cons rfl sub_nil))))))))))))) (fun _ h => by try dsimp only; exact subC_st h)
              · try dsimp only
                refine ⟨by omega, by omega, fun k h1 h2 h3 => ?_⟩
                rcases Nat.lt_succ_iff_lt_or_eq.1 h2 with h | rfl
                · rw [hrem k h1 h h3]; rfl
                · rw [decide_eq_true h3, Bool.or_true]
              · try dsimp only
                show (nth lv.toks n tok0).pos - (i + 1) < (nth lv.toks n tok0).pos - i
                omega
          · skip
            try simp at hc4
            refine t_exit ?_
            refine n_exit_then ?_
            refine n_exit_then ?_
            refine n_exit_block ?_
            refine n_then ?_
            refine t_region ?_
            refine l_q rfl rfl rfl (q_fieldAddr rfl Tryd.underlying28 rfl rfl ti3 rfl rfl) ?_
            refine l_q rfl rfl rfl (q_load_row rfl Tryd.underlying3 rfl rfl (by rfl)) ?_
            refine l_q rfl rfl rfl (q_fieldAddr rfl Tryd.underlying28 rfl rfl ti9 rfl rfl) ?_
            refine l_q rfl rfl rfl (q_load_row rfl Tryd.underlying9 rfl rfl (by rfl)) ?_
            refine l_q rfl rfl rfl (q_len_str rfl Tryd.underlying9 rfl) ?_
            refine l_q rfl rfl rfl (q_add64 rfl rfl rfl (by omega)) ?_
            refine l_q rfl rfl rfl (q_assign rfl rfl) ?_
            refine l_nil ?_
            refine n_block ?_
            refine n_then ?_
            refine t_region ?_
            refine l_q rfl rfl rfl (q_add64 rfl rfl rfl (by omega)) ?_
            refine l_q rfl rfl rfl (q_move rfl rfl) ?_
            refine l_nil ?_
            refine n_roundE ((n + 1, (nth lv.toks n tok0).pos + (nth lv.toks n tok0).text.length)) ?_ ?_ (sub_cons rfl (sub_cons rfl sub_nil)) (sub_cons rfl (sub_cons rfl (sub_cons rfl (sub_cons rfl (sub_cons rfl (sub_cons rfl (sub_cons rfl (sub_cons rfl sub_nil)))))))) (fun _ h => by try dsimp only; exact subC_st h)
            · try dsimp only
              exact ⟨hn, hst2.2⟩
            · try dsimp only
              show lv.toks.length - (n + 1) < lv.toks.length - n
              omega
      · skip
        try simp at hc2
        rw [List.drop_of_length_le (by omega)] at hst
        have hend : a ≤ lv.fin ∧ lv.fin ≤ s.length := hst
        refine t_exit ?_
        refine n_exit_then ?_
        refine n_exit_then ?_
        refine n_exit_block ?_
        refine n_then ?_
        refine t_seq ?_
        refine t_qreg ?_
        refine s_q rfl rfl rfl (q_move rfl rfl) ?_
        refine s_q rfl rfl rfl (q_move rfl rfl) ?_
        refine s_q rfl rfl rfl (q_geq rfl rfl rfl) ?_
        refine s_q rfl rfl rfl (q_move rfl rfl) ?_
        refine s_and2 4 3 125 130 129 _ _ rfl rfl rfl rfl rfl rfl (fun h130 => by
            try simp at h130
            refine s_g rfl rfl rfl rfl rfl rfl (q_move rfl rfl) ?_
            refine s_g rfl rfl rfl rfl rfl rfl (q_move rfl rfl) ?_
            refine s_g rfl rfl rfl rfl rfl rfl (q_len_str rfl Tryd.underlying9 rfl) ?_
            refine s_g rfl rfl rfl rfl rfl rfl (q_leq rfl rfl rfl) ?_
            exact s_val rfl
          ) (wanted_n rfl) rfl rfl rfl ?_
        refine s_q rfl rfl rfl (q_assign rfl rfl) ?_
        refine s_done ?_
        refine n_then ?_
        refine t_ret ?_
        refine n_ret1 rfl rfl (fun w' hw => ?_)
        -- leaf 1
        refine ⟨?_, (hw.less hJ17).below⟩
        rw [decide_eq_true (by omega), decide_eq_true (by omega)]; rfl
end Go.Tri
