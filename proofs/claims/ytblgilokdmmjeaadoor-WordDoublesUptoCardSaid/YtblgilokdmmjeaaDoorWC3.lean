/-
  The statement: WordDoubles.
-/
import Derived.Test.YtblgilokdmmjeaaDoorWC1
namespace Go.Tri
open Go.Proofs Go.RowKit
theorem dbl_of {c : UInt8} (h : (decide (c = 36) || decide (c = 92) || decide (c = 34) || decide (c = 96)) = false) : dblB c := by
  simp only [Bool.or_eq_false_iff, decide_eq_false_iff_not] at h
  exact ⟨h.1.1.1, h.1.1.2, h.1.2, h.2⟩
theorem parts_bound {s : List UInt8} {k : Int} {l : List PT} (h : partsP s k = .ok l) : l.length ≤ s.length ∧ sumP l ≤ s.length := by
  unfold partsP at h
  split at h
  · cases h
  · split at h
    · cases h
    · exact wP_bound 24 _ _ _ h
set_option maxRecDepth 10000 in
theorem wordDoubles_pure (s : List UInt8) (w : World) (hs : s.length ≤ 1048576) (hG : EnvI (look w)) : Pure Tryd.prog 5 [str s] w (.bool true) := by
  refine enter Tryd.func5 rfl Tryd.ntmps5 rfl (St.start w (look w) (Le.refl _)) ?_
  refine t_seq ?_
  refine t_region ?_
  refine l_q rfl rfl rfl (q_assign rfl rfl) ?_
  refine l_nil ?_
  refine n_then ?_
  refine t_seq ?_
  refine t_seq ?_
  refine t_region ?_
  refine l_q rfl rfl rfl (quiet_call rfl rfl rfl Tryd.func8 (by kernel_rfl) rfl ((fun w hw => awake_pure w (hG.mono hw.le)))) ?_
  refine l_q rfl rfl rfl (q_not rfl rfl) ?_
  refine l_nil ?_
  refine n_then ?_
  refine t_cond rfl (fun hc0 => ?_) (fun hc0 => ?_)
  · skip
    try simp at hc0
  · skip
    try simp at hc0
    refine t_skip ?_
    refine n_then ?_
    refine t_seq ?_
    refine t_seq ?_
    refine t_region ?_
    refine l_q rfl rfl rfl (q_move rfl rfl) ?_
    refine l_q rfl rfl rfl (q_len_str rfl Tryd.underlying9 rfl) ?_
    refine l_q rfl rfl rfl (q_gtr rfl rfl rfl) ?_
    refine l_nil ?_
    refine n_then ?_
    refine t_cond rfl (fun hc1 => ?_) (fun hc1 => ?_)
    · skip
      try simp at hc1
      refine t_seq ?_
      refine t_region ?_
      refine l_q rfl rfl rfl (q_assign rfl rfl) ?_
      refine l_nil ?_
      refine n_then ?_
      refine t_ret ?_
      refine n_ret_then ?_
      refine n_ret1 rfl rfl (fun w' hw => ?_)
      -- leaf 0
      exact ⟨rfl, hw.below⟩
    · skip
      try simp at hc1
      have hs3 : s.length ≤ 3000 := by omega
      refine t_skip ?_
      refine n_then ?_
      refine t_seq ?_
      refine t_seq ?_
      refine t_region ?_
      refine l_q rfl rfl rfl (q_assign rfl rfl) ?_
      refine l_nil ?_
      refine n_then ?_
      refine t_block ?_
      refine t_loopE (ι := Nat) (fun zz => zz ≤ s.length ∧ ∀ k, k < zz → dblB (nth s k 0)) (fun zz => s.length - zz) (fun zz => [(3, .int .i64 (zz : Int))]) [(0, _), (11, _), (14, _)] (fun zz => look w) (fun zz => []) 0 ?_ (sub_cons rfl sub_nil) (sub_cons rfl (sub_cons rfl (sub_cons rfl sub_nil))) (fun _ h => subC_st h) ?_
      · try dsimp only
        exact ⟨Nat.zero_le _, fun k h => absurd h (Nat.not_lt_zero _)⟩
      rintro i ⟨hi, hno⟩
      try dsimp only at *
      refine t_seq ?_
      refine t_seq ?_
      refine t_region ?_
      refine l_q rfl rfl rfl (q_move rfl rfl) ?_
      refine l_q rfl rfl rfl (q_move rfl rfl) ?_
      refine l_q rfl rfl rfl (q_len_str rfl Tryd.underlying9 rfl) ?_
      refine l_q rfl rfl rfl (q_lss rfl rfl rfl) ?_
      refine l_nil ?_
      refine n_then ?_
      refine t_cond rfl (fun hc2 => ?_) (fun hc2 => ?_)
      · skip
        try simp at hc2
        refine t_skip ?_
        refine n_then ?_
        refine t_seq ?_
        refine t_block ?_
        refine t_seq ?_
        refine t_qreg ?_
        refine s_q rfl rfl rfl (q_move rfl rfl) ?_
        refine s_q rfl rfl rfl (q_move rfl rfl) ?_
        refine s_q rfl rfl rfl ((by first | exact q_index_strN rfl Tryd.underlying9 rfl rfl (by omega) | exact q_index_str rfl Tryd.underlying9 rfl rfl (by omega))) ?_
        refine s_q rfl rfl rfl (q_eql_u8c rfl rfl rfl rfl) ?_
        refine s_q rfl rfl rfl (q_move rfl rfl) ?_
        refine s_or2 4 4 25 30 29 _ _ rfl rfl rfl rfl rfl rfl (fun h30 => by
            try simp at h30
            refine s_g rfl rfl rfl rfl rfl rfl (q_move rfl rfl) ?_
            refine s_g rfl rfl rfl rfl rfl rfl (q_move rfl rfl) ?_
            refine s_g rfl rfl rfl rfl rfl rfl ((by first | exact q_index_strN rfl Tryd.underlying9 rfl rfl (by omega) | exact q_index_str rfl Tryd.underlying9 rfl rfl (by omega))) ?_
            refine s_g rfl rfl rfl rfl rfl rfl (q_eql_u8c rfl rfl rfl rfl) ?_
            exact s_val rfl
          ) (wanted_n rfl) rfl rfl rfl ?_
        refine s_q rfl rfl rfl (q_move rfl rfl) ?_
        refine s_or2 4 10 31 36 35 _ _ rfl rfl rfl rfl rfl rfl (fun h36 => by
            try simp at h36
            refine s_g rfl rfl rfl rfl rfl rfl (q_move rfl rfl) ?_
            refine s_g rfl rfl rfl rfl rfl rfl (q_move rfl rfl) ?_
            refine s_g rfl rfl rfl rfl rfl rfl ((by first | exact q_index_strN rfl Tryd.underlying9 rfl rfl (by omega) | exact q_index_str rfl Tryd.underlying9 rfl rfl (by omega))) ?_
            refine s_g rfl rfl rfl rfl rfl rfl (q_eql_u8c rfl rfl rfl rfl) ?_
            exact s_val rfl
          ) (wanted_n rfl) rfl rfl rfl ?_
        refine s_q rfl rfl rfl (q_move rfl rfl) ?_
        refine s_or2 4 16 37 42 41 _ _ rfl rfl rfl rfl rfl rfl (fun h42 => by
            try simp at h42
            refine s_g rfl rfl rfl rfl rfl rfl (q_move rfl rfl) ?_
            refine s_g rfl rfl rfl rfl rfl rfl (q_move rfl rfl) ?_
            refine s_g rfl rfl rfl rfl rfl rfl ((by first | exact q_index_strN rfl Tryd.underlying9 rfl rfl (by omega) | exact q_index_str rfl Tryd.underlying9 rfl rfl (by omega))) ?_
            refine s_g rfl rfl rfl rfl rfl rfl (q_eql_u8c rfl rfl rfl rfl) ?_
            exact s_val rfl
          ) (wanted_n rfl) rfl rfl rfl ?_
        refine s_done ?_
        refine n_then ?_
        refine t_cond rfl (fun hc3 => ?_) (fun hc3 => ?_)
        · skip
          refine t_seq ?_
          refine t_region ?_
          refine l_q rfl rfl rfl (q_assign rfl rfl) ?_
          refine l_nil ?_
          refine n_then ?_
          refine t_ret ?_
          refine n_ret_block ?_
          refine n_ret_then ?_
          refine n_ret_then ?_
          refine n_ret_block ?_
          refine n_ret_then ?_
          refine n_ret1 rfl rfl (fun w' hw => ?_)
          -- leaf 1
          exact ⟨rfl, hw.below⟩
        · skip
          refine t_skip ?_
          refine n_block ?_
          refine n_then ?_
          refine t_region ?_
          refine l_q rfl rfl rfl (q_move rfl rfl) ?_
          refine l_q rfl rfl rfl (q_add64 rfl rfl rfl (by omega)) ?_
          refine l_q rfl rfl rfl (q_assign rfl rfl) ?_
          refine l_nil ?_
          refine n_roundE (i + 1) ?_ ?_ (sub_cons rfl sub_nil) (sub_cons rfl (sub_cons rfl (sub_cons rfl sub_nil))) (fun _ h => by try dsimp only; exact subC_st h)
          · try dsimp only
            refine ⟨by omega, fun k hk => ?_⟩
            rcases Nat.lt_succ_iff_lt_or_eq.1 hk with h | rfl
            · exact hno k h
            · exact dbl_of hc3
          · try dsimp only
            show s.length - (i + 1) < s.length - i
            omega
      · skip
        try simp at hc2
        have hall : ∀ c ∈ s, dblB c := fun c hc => by
          obtain ⟨k, hk, rfl⟩ := List.getElem_of_mem hc
          rw [← nth_eq (d := 0) hk]
          exact hno k (by omega)
        refine t_exit ?_
        refine n_exit_then ?_
        refine n_exit_then ?_
        refine n_exit_block ?_
        refine n_then ?_
        refine t_seq ?_
        refine t_region ?_
        refine l_q rfl rfl rfl (q_move rfl rfl) ?_
        refine l_q rfl rfl rfl (q_cat rfl rfl rfl (by first | omega | (simp only [List.length_append, List.length_cons, List.length_nil, List.length_take, List.length_drop]; omega))) ?_
        refine l_q rfl rfl rfl (q_cat rfl rfl rfl (by first | omega | (simp only [List.length_append, List.length_cons, List.length_nil, List.length_take, List.length_drop]; omega))) ?_
        refine l_e rfl rfl rfl (eff_call rfl rfl rfl Tryd.func9 (by kernel_rfl) rfl (fun w hw => parts_calls ([34] ++ s ++ [34]) (0) _ _ _ w (by simp; omega) (hG) hw)) ?_
        rintro _ J47 _ ⟨hJ47, rfl, vl47, e47, rfl, hres47⟩
        rw [doubles_read (by omega) hall] at hres47
        obtain ⟨he47, hpl47⟩ := hres47
        subst he47
        obtain ⟨L47, hL47, hsl47, hWL47⟩ := hpl47.un
        have hln47 := pt_len hL47
        have hsm47 := pt_sum hL47
        have hl1 : L47.length = 1 := hln47
        have p0 := pt_nth hL47 (i := 0) (by omega)
        refine l_q rfl rfl rfl (q_move rfl rfl) ?_
        refine l_q rfl rfl rfl (q_extract rfl rfl rfl) ?_
        refine l_q rfl rfl rfl (q_extract rfl rfl rfl) ?_
        refine l_q rfl rfl rfl (q_assign rfl rfl) ?_
        refine l_q rfl rfl rfl (q_assign rfl rfl) ?_
        refine l_nil ?_
        refine n_then ?_
        refine t_seq ?_
        refine t_region ?_
        refine l_q rfl rfl rfl (q_move rfl rfl) ?_
        refine l_e rfl rfl rfl (eff_call rfl rfl rfl Tryd.func9 (by kernel_rfl) rfl (fun w hw => parts_calls (s) (2) _ _ _ w (by omega) (hG.mono hJ47) hw)) ?_
        rintro _ J52 _ ⟨hJ52, rfl, vl52, e52, rfl, hres52⟩
        obtain ⟨l2, hl2, hst2⟩ := doubles_two (s := s) (by omega) hall
        have hwb := parts_bound hl2
        rw [hl2] at hres52
        obtain ⟨he52, hpl52⟩ := hres52
        subst he52
        obtain ⟨L52, hL52, hsl52, hWL52⟩ := hpl52.un
        have hln52 := pt_len hL52
        have hsm52 := pt_sum hL52
        have hst : statP (L52.map PE.pt) = some s := by rw [← hL52]; exact hst2
        refine l_q rfl rfl rfl (q_move rfl rfl) ?_
        refine l_q rfl rfl rfl (q_extract rfl rfl rfl) ?_
        refine l_q rfl rfl rfl (q_extract rfl rfl rfl) ?_
        refine l_q rfl rfl rfl (q_assign rfl rfl) ?_
        refine l_q rfl rfl rfl (q_assign rfl rfl) ?_
        refine l_nil ?_
        refine n_then ?_
        refine t_seq ?_
        refine t_seq ?_
        refine t_qreg ?_
        refine s_q rfl rfl rfl (q_move rfl rfl) ?_
        refine s_q rfl rfl rfl (q_neq rfl rfl rfl) ?_
        refine s_q rfl rfl rfl (q_move rfl rfl) ?_
        refine s_or2 2 2 57 60 59 _ _ rfl rfl rfl rfl rfl rfl (fun h60 => by
            try simp at h60
            refine s_g rfl rfl rfl rfl rfl rfl (q_move rfl rfl) ?_
            refine s_g rfl rfl rfl rfl rfl rfl (q_neq rfl rfl rfl) ?_
            exact s_val rfl
          ) (wanted_n rfl) rfl rfl rfl ?_
        refine s_q rfl rfl rfl (q_move rfl rfl) ?_
        refine s_or2 3 6 61 65 64 _ _ rfl rfl rfl rfl rfl rfl (fun h65 => by
            try simp at h65
            refine s_g rfl rfl rfl rfl rfl rfl (q_move rfl rfl) ?_
            refine s_g rfl rfl rfl rfl rfl rfl ((by first | exact q_lenV rfl Tryd.underlying23 rfl | exact q_len rfl Tryd.underlying23 rfl (Sl.lenOf (hsl47.mono hJ52) (List.length_map _)))) ?_
            refine s_g rfl rfl rfl rfl rfl rfl (q_neq rfl rfl rfl) ?_
            exact s_val rfl
          ) (wanted_n rfl) rfl rfl rfl ?_
        refine s_q rfl rfl rfl (q_move rfl rfl) ?_
        refine s_or2 5 11 66 72 71 _ _ rfl rfl rfl rfl rfl rfl (fun h72 => by
            try simp at h72
            refine s_g rfl rfl rfl rfl rfl rfl (q_move rfl rfl) ?_
            refine s_g rfl rfl rfl rfl rfl rfl ((by first | exact q_indexAddrVN rfl Tryd.underlying23 ti32 rfl rfl (by omega) | exact q_indexAddrN rfl Tryd.underlying23 ti32 rfl rfl (Sl.shape (hsl47.mono hJ52) (List.length_map _)) (by omega) | exact q_indexAddrV rfl Tryd.underlying23 ti32 rfl rfl (by omega) | exact q_indexAddr rfl Tryd.underlying23 ti32 rfl rfl (Sl.shape (hsl47.mono hJ52) (List.length_map _)) (by omega))) ?_
            refine s_g rfl rfl rfl rfl rfl rfl (q_fieldAddr rfl Tryd.underlying32 rfl rfl ti3 rfl rfl) ?_
            refine s_g rfl rfl rfl rfl rfl rfl ((by first | exact q_load_row rfl Tryd.underlying3 rfl rfl (by rfl) | exact q_load rfl Tryd.underlying3 rfl rfl (rd_ptf (i := 0) (j := 0) (hsl47.mono hJ52) (by omega) rfl) | exact q_load rfl Tryd.underlying3 rfl rfl (rd_ptf (i := 0) (j := 1) (hsl47.mono hJ52) (by omega) rfl) | exact q_load rfl Tryd.underlying3 rfl rfl (rd_ptf (i := 0) (j := 4) (hsl47.mono hJ52) (by omega) rfl))) ?_
            refine s_g rfl rfl rfl rfl rfl rfl (q_neq rfl rfl rfl) ?_
            exact s_val rfl
          ) (wanted_n rfl) rfl rfl rfl ?_
        refine s_q rfl rfl rfl (q_move rfl rfl) ?_
        refine s_or2 6 18 73 80 79 _ _ rfl rfl rfl rfl rfl rfl (fun h80 => by
            try simp at h80
            refine s_g rfl rfl rfl rfl rfl rfl (q_move rfl rfl) ?_
            refine s_g rfl rfl rfl rfl rfl rfl ((by first | exact q_indexAddrVN rfl Tryd.underlying23 ti32 rfl rfl (by omega) | exact q_indexAddrN rfl Tryd.underlying23 ti32 rfl rfl (Sl.shape (hsl47.mono hJ52) (List.length_map _)) (by omega) | exact q_indexAddrV rfl Tryd.underlying23 ti32 rfl rfl (by omega) | exact q_indexAddr rfl Tryd.underlying23 ti32 rfl rfl (Sl.shape (hsl47.mono hJ52) (List.length_map _)) (by omega))) ?_
            refine s_g rfl rfl rfl rfl rfl rfl (q_fieldAddr rfl Tryd.underlying32 rfl rfl ti9 rfl rfl) ?_
            refine s_g rfl rfl rfl rfl rfl rfl ((by first | exact q_load_row rfl Tryd.underlying9 rfl rfl (by rfl) | exact q_load rfl Tryd.underlying9 rfl rfl (rd_ptf (i := 0) (j := 0) (hsl47.mono hJ52) (by omega) rfl) | exact q_load rfl Tryd.underlying9 rfl rfl (rd_ptf (i := 0) (j := 1) (hsl47.mono hJ52) (by omega) rfl) | exact q_load rfl Tryd.underlying9 rfl rfl (rd_ptf (i := 0) (j := 4) (hsl47.mono hJ52) (by omega) rfl))) ?_
            refine s_g rfl rfl rfl rfl rfl rfl (q_move rfl rfl) ?_
            refine s_g rfl rfl rfl rfl rfl rfl (q_neq_str rfl rfl rfl) ?_
            exact s_val rfl
          ) (wanted_n rfl) rfl rfl rfl ?_
        refine s_q rfl rfl rfl (q_move rfl rfl) ?_
        refine s_or2 5 26 81 87 86 _ _ rfl rfl rfl rfl rfl rfl (fun h87 => by
            try simp at h87
            refine s_g rfl rfl rfl rfl rfl rfl (q_move rfl rfl) ?_
            refine s_g rfl rfl rfl rfl rfl rfl ((by first | exact q_indexAddrVN rfl Tryd.underlying23 ti32 rfl rfl (by omega) | exact q_indexAddrN rfl Tryd.underlying23 ti32 rfl rfl (Sl.shape (hsl47.mono hJ52) (List.length_map _)) (by omega) | exact q_indexAddrV rfl Tryd.underlying23 ti32 rfl rfl (by omega) | exact q_indexAddr rfl Tryd.underlying23 ti32 rfl rfl (Sl.shape (hsl47.mono hJ52) (List.length_map _)) (by omega))) ?_
            refine s_g rfl rfl rfl rfl rfl rfl (q_fieldAddr rfl Tryd.underlying32 rfl rfl ti4 rfl rfl) ?_
            refine s_g rfl rfl rfl rfl rfl rfl ((by first | exact q_load_row rfl Tryd.underlying4 rfl rfl (by rfl) | exact q_load rfl Tryd.underlying4 rfl rfl (rd_ptf (i := 0) (j := 0) (hsl47.mono hJ52) (by omega) rfl) | exact q_load rfl Tryd.underlying4 rfl rfl (rd_ptf (i := 0) (j := 1) (hsl47.mono hJ52) (by omega) rfl) | exact q_load rfl Tryd.underlying4 rfl rfl (rd_ptf (i := 0) (j := 4) (hsl47.mono hJ52) (by omega) rfl))) ?_
            refine s_g rfl rfl rfl rfl rfl rfl (q_not rfl rfl) ?_
            exact s_val rfl
          ) (wanted_n rfl) rfl rfl rfl ?_
        refine s_done ?_
        refine n_then ?_
        refine t_cond rfl (fun hc4 => ?_) (fun hc4 => ?_)
        · skip
          exfalso
          have h4 := hc4
          rw [hl1, p0.1, p0.2.1, p0.2.2.2.1] at h4
          simp [nth, PT.kind, PT.text, PT.q] at h4
        · skip
          refine t_skip ?_
          refine n_then ?_
          refine t_seq ?_
          refine t_region ?_
          refine l_q rfl rfl rfl (q_move rfl rfl) ?_
          refine l_q rfl rfl rfl (quiet_call rfl rfl rfl Tryd.func14 (by kernel_rfl) rfl ((fun w hw => static_pure _ L52 w (by omega) (by omega) (hsl52.mono hw.le) (WordsR.mono hWL52 hw.le)))) ?_
          rw [hst]
          refine l_q rfl rfl rfl (q_move rfl rfl) ?_
          refine l_q rfl rfl rfl (q_extract rfl rfl rfl) ?_
          refine l_q rfl rfl rfl (q_extract rfl rfl rfl) ?_
          refine l_q rfl rfl rfl (q_assign rfl rfl) ?_
          refine l_q rfl rfl rfl (q_assign rfl rfl) ?_
          refine l_nil ?_
          refine n_then ?_
          refine t_seq ?_
          refine t_qreg ?_
          refine s_q rfl rfl rfl (q_move rfl rfl) ?_
          refine s_q rfl rfl rfl (q_move rfl rfl) ?_
          refine s_and2 3 1 94 98 97 _ _ rfl rfl rfl rfl rfl rfl (fun h98 => by
              try simp at h98
              refine s_g rfl rfl rfl rfl rfl rfl (q_move rfl rfl) ?_
              refine s_g rfl rfl rfl rfl rfl rfl (q_move rfl rfl) ?_
              refine s_g rfl rfl rfl rfl rfl rfl (q_eql_str rfl rfl rfl) ?_
              exact s_val rfl
            ) (wanted_n rfl) rfl rfl rfl ?_
          refine s_q rfl rfl rfl (q_assign rfl rfl) ?_
          refine s_done ?_
          refine n_then ?_
          refine t_ret ?_
          refine n_ret1 rfl rfl (fun w' hw => ?_)
          -- leaf 2
          refine ⟨?_, (hw.less (hJ47.trans hJ52)).below⟩
          simp
end Go.Tri
