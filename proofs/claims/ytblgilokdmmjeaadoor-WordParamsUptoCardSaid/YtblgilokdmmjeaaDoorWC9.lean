/-
  The statement: WordParams.
-/
import Derived.Test.YtblgilokdmmjeaaDoorWC1
import Derived.Test.YtblgilokdmmjeaaDoorPWord7
namespace Go.Tri
open Go.Proofs Go.RowKit
theorem opsT_len {k : Nat} (hk : k < 12) : (nth opsT k []).length ≤ 2 := by
  have : k = 0 ∨ k = 1 ∨ k = 2 ∨ k = 3 ∨ k = 4 ∨ k = 5 ∨ k = 6 ∨ k = 7 ∨ k = 8 ∨ k = 9 ∨ k = 10 ∨ k = 11 := by omega
  rcases this with rfl | rfl | rfl | rfl | rfl | rfl | rfl | rfl | rfl | rfl | rfl | rfl <;> decide
theorem rd_opsT {w0 : World} {I : Look} {H : List HA} {b T : Nat} {k : Nat} (hm : row b T (opsT.map str) ∈ H) (hk : k < 12) : Rd w0 I H b (0 + k * 1) (str (nth opsT k [])) := by
  rw [Nat.zero_add, Nat.mul_one]
  refine rd_row hm ?_
  have h : k < opsT.length := hk
  rw [List.getElem?_map, List.getElem?_eq_getElem h, nth_eq h]; rfl
theorem tm_at (op : Int) : ∃ k : Nat, (op.tmod 12 + 12).tmod 12 = (k : Int) ∧ k < 12 := by
  have h1 : -12 < op.tmod 12 := Int.lt_tmod_of_pos op (by decide)
  have h2 : op.tmod 12 < 12 := Int.tmod_lt_of_pos op (by decide)
  have h3 : 0 ≤ (op.tmod 12 + 12).tmod 12 := Int.tmod_nonneg 12 (by omega)
  have h4 : (op.tmod 12 + 12).tmod 12 < 12 := Int.tmod_lt_of_pos _ (by decide)
  exact ⟨((op.tmod 12 + 12).tmod 12).toNat, by omega, by omega⟩
theorem wp_cond {name s : List UInt8} (h : (!nameB name || decide (300 < (name.length : Int) + (s.length : Int)) || (decide (s ≠ []) && decide (nth s 0 0 = 37))) = false) : nameB name = true ∧ name.length + s.length ≤ 300 ∧ ¬ (s ≠ [] ∧ nth s 0 0 = 37) := by
  simp only [Bool.or_eq_false_iff, Bool.not_eq_false', decide_eq_false_iff_not] at h
  refine ⟨h.1.1, by omega, fun ⟨h1, h2⟩ => ?_⟩
  have h3 := h.2
  rw [decide_eq_true h1, decide_eq_true h2] at h3
  cases h3
set_option maxRecDepth 10000 in
theorem wordParams_pure (name s : List UInt8) (op : Int) (w : World) (hnl : name.length ≤ 1048576) (hs : s.length ≤ 1048576) (hG : EnvI (look w)) : Pure Tryd.prog 7 [str name, str s, .int .i64 op] w (.bool true) := by
  refine enter Tryd.func7 rfl Tryd.ntmps7 rfl (St.start w (look w) (Le.refl _)) ?_
  refine t_seq ?_
  refine t_region ?_
  refine l_q rfl rfl rfl (q_assign rfl rfl) ?_
  refine l_nil ?_
  refine n_then ?_
  refine t_seq ?_
  refine t_seq ?_
  refine t_region ?_
  refine l_q rfl rfl rfl (quiet_call rfl rfl rfl Tryd.func8 (by kernel_rfl) rfl ((fun w hw => awake_pure w (hG.mono hw.le)))) ?_
  refine l_q rfl rfl rfl (q_not rfl rfl) ?_
  refine l_nil ?_
  refine n_then ?_
  refine t_cond rfl (fun hc0 => ?_) (fun hc0 => ?_)
  · skip
    try simp at hc0
  · skip
    try simp at hc0
    refine t_skip ?_
    refine n_then ?_
    refine t_seq ?_
    refine t_seq ?_
    refine t_qreg ?_
    refine s_q rfl rfl rfl (q_move rfl rfl) ?_
    refine s_q rfl rfl rfl (quiet_call rfl rfl rfl Tryd.func16 (by kernel_rfl) rfl ((fun w _ => name_pure name w (by omega)))) ?_
    refine s_q rfl rfl rfl (q_not rfl rfl) ?_
    refine s_q rfl rfl rfl (q_move rfl rfl) ?_
    refine s_or2 6 3 22 29 28 _ _ rfl rfl rfl rfl rfl rfl (fun h29 => by
        try simp at h29
        refine s_g rfl rfl rfl rfl rfl rfl (q_move rfl rfl) ?_
        refine s_g rfl rfl rfl rfl rfl rfl (q_len_str rfl Tryd.underlying9 rfl) ?_
        refine s_g rfl rfl rfl rfl rfl rfl (q_move rfl rfl) ?_
        refine s_g rfl rfl rfl rfl rfl rfl (q_len_str rfl Tryd.underlying9 rfl) ?_
        refine s_g rfl rfl rfl rfl rfl rfl (q_add64 rfl rfl rfl (by omega)) ?_
        refine s_g rfl rfl rfl rfl rfl rfl (q_gtr rfl rfl rfl) ?_
        exact s_val rfl
      ) (wanted_n rfl) rfl rfl rfl ?_
    refine s_q rfl rfl rfl (q_move rfl rfl) ?_
    refine s_or2 7 11 30 38 37 _ _ rfl rfl rfl rfl rfl rfl (fun h38 => by
        try simp at h38
        refine s_g rfl rfl rfl rfl rfl rfl (q_move rfl rfl) ?_
        refine s_g rfl rfl rfl rfl rfl rfl (q_neq_str rfl rfl rfl) ?_
        refine s_g rfl rfl rfl rfl rfl rfl (q_move rfl rfl) ?_
        refine s_and2 3 14 33 37 36 _ _ rfl rfl rfl rfl rfl rfl (fun h37 => by
            try simp at h37
            have hs1 : 0 < s.length := List.length_pos_iff.2 (by simpa using h37)
            refine s_g rfl rfl rfl rfl rfl rfl (q_move rfl rfl) ?_
            refine s_g rfl rfl rfl rfl rfl rfl ((by first | exact q_index_strN rfl Tryd.underlying9 rfl rfl (by omega) | exact q_index_str rfl Tryd.underlying9 rfl rfl (by omega))) ?_
            refine s_g rfl rfl rfl rfl rfl rfl (q_eql_u8c rfl rfl rfl rfl) ?_
            exact s_val rfl
          ) (wanted_g rfl rfl rfl rfl) rfl rfl rfl ?_
        exact s_val rfl
      ) (wanted_n rfl) rfl rfl rfl ?_
    refine s_done ?_
    refine n_then ?_
    refine t_cond rfl (fun hc1 => ?_) (fun hc1 => ?_)
    · skip
      refine t_seq ?_
      refine t_region ?_
      refine l_q rfl rfl rfl (q_assign rfl rfl) ?_
      refine l_nil ?_
      refine n_then ?_
      refine t_ret ?_
      refine n_ret_then ?_
      refine n_ret1 rfl rfl (fun w' hw => ?_)
      -- leaf 0
      exact ⟨rfl, hw.below⟩
    · skip
      obtain ⟨hnm, hnl3, hs0⟩ := wp_cond hc1
      refine t_skip ?_
      refine n_then ?_
      refine t_seq ?_
      refine t_region ?_
      refine l_e rfl rfl rfl (e_buildSliceN (vs := [_, _, _, _, _, _, _, _, _, _, _, _]) (css := [[str [58, 45]], [str [58, 61]], [str [58, 63]], [str [58, 43]], [str [45]], [str [61]], [str [63]], [str [43]], [str [37]], [str [37, 37]], [str [35]], [str [35, 35]]]) rfl Tryd.underlying40 ti9 rfl rfl rfl rfl (rfl) (by simp [pcC, chC])) ?_
      rintro _ _ _ ⟨b39, rfl, rfl, rfl⟩
      refine l_heap (H' := row b39 9 (opsT.map str) :: []) ?_ (fun _ h => h)
      refine l_q rfl rfl rfl (q_assign rfl rfl) ?_
      refine l_nil ?_
      refine n_then ?_
      refine t_seq ?_
      have hr1 : -12 < op.tmod 12 := Int.lt_tmod_of_pos op (by decide)
      have hr2 : op.tmod 12 < 12 := Int.tmod_lt_of_pos op (by decide)
      refine t_region ?_
      refine l_q rfl rfl rfl (q_move rfl rfl) ?_
      refine l_q rfl rfl rfl (q_rem rfl rfl rfl (by omega)) ?_
      refine l_q rfl rfl rfl (q_add64 rfl rfl rfl (by omega)) ?_
      refine l_q rfl rfl rfl (q_rem rfl rfl rfl (by omega)) ?_
      obtain ⟨k, hk, hk12⟩ := tm_at op
      rw [hk]
      refine l_q rfl rfl rfl (q_assign rfl rfl) ?_
      refine l_nil ?_
      refine n_then ?_
      refine t_seq ?_
      refine t_region ?_
      refine l_q rfl rfl rfl (q_move rfl rfl) ?_
      refine l_q rfl rfl rfl (q_cat rfl rfl rfl (by first | omega | (simp only [List.length_append, List.length_cons, List.length_nil, List.length_take, List.length_drop]; omega))) ?_
      refine l_e rfl rfl rfl (eff_call rfl rfl rfl Tryd.func9 (by kernel_rfl) rfl (fun w hw => parts_calls ([36] ++ name) (0) _ _ _ w (by simp; omega) (hG) hw)) ?_
      rintro _ J47 _ ⟨hJ47, rfl, vl47, e47, rfl, hres47⟩
      rw [par_read hnm (by omega)] at hres47
      obtain ⟨he47, hpl47⟩ := hres47
      subst he47
      obtain ⟨L47, hL47, hsl47, hWL47⟩ := hpl47.un
      have hln47 := pt_len hL47
      have hsm47 := pt_sum hL47
      have hl47 : L47.length = 1 := hln47
      have p47 := pt_nth hL47 (i := 0) (by omega)
      refine l_q rfl rfl rfl (q_move rfl rfl) ?_
      refine l_q rfl rfl rfl (q_extract rfl rfl rfl) ?_
      refine l_q rfl rfl rfl (q_extract rfl rfl rfl) ?_
      refine l_q rfl rfl rfl (q_assign rfl rfl) ?_
      refine l_q rfl rfl rfl (q_assign rfl rfl) ?_
      refine l_nil ?_
      refine n_then ?_
      refine t_seq ?_
      have hol := opsT_len hk12
      have hql := quoteB_le s
      refine t_draw [11] [] [] mo (by kernel_rfl) (fun _ _ _ _ _ h => h) ?_
      refine r_qf 0 (by kernel_rfl) rfl rfl rfl rfl (fun _ => q_move rfl rfl) ?_
      refine r_qf 1 (by kernel_rfl) rfl rfl rfl rfl (fun _ => q_cat rfl rfl rfl (by first | omega | (simp only [List.length_append, List.length_cons, List.length_nil, List.length_take, List.length_drop]; omega))) ?_
      refine r_qf 2 (by kernel_rfl) rfl rfl rfl rfl (fun _ => q_move rfl rfl) ?_
      refine r_qf 3 (by kernel_rfl) rfl rfl rfl rfl (fun _ => q_move rfl rfl) ?_
      refine r_qf 4 (by kernel_rfl) rfl rfl rfl rfl (fun _ => (by first | exact q_indexAddrVN rfl Tryd.underlying40 ti9 rfl rfl (by omega) | exact q_indexAddrN rfl Tryd.underlying40 ti9 rfl rfl (Sl.shape (hsl47.mono (hJ62.trans hJ69)) (List.length_map _)) (by omega) | exact q_indexAddrN rfl Tryd.underlying40 ti9 rfl rfl (Sl.shape (hsl62.mono hJ69) (List.length_map _)) (by omega) | exact q_indexAddrN rfl Tryd.underlying40 ti9 rfl rfl (Sl.shape hsl69 (List.length_map _)) (by omega) | exact q_indexAddrN rfl Tryd.underlying40 ti9 rfl rfl (⟨_, _, rfl, fun _ _ h => by cases h; rfl, fun _ h => by cases h⟩) (by omega) | exact q_indexAddrV rfl Tryd.underlying40 ti9 rfl rfl (by omega) | exact q_indexAddr rfl Tryd.underlying40 ti9 rfl rfl (Sl.shape (hsl47.mono (hJ62.trans hJ69)) (List.length_map _)) (by omega) | exact q_indexAddr rfl Tryd.underlying40 ti9 rfl rfl (Sl.shape (hsl62.mono hJ69) (List.length_map _)) (by omega) | exact q_indexAddr rfl Tryd.underlying40 ti9 rfl rfl (Sl.shape hsl69 (List.length_map _)) (by omega) | exact q_indexAddr rfl Tryd.underlying40 ti9 rfl rfl (⟨_, _, rfl, fun _ _ h => by cases h; rfl, fun _ h => by cases h⟩) (by omega))) ?_
      refine r_q1 5 (by kernel_rfl) rfl (Le.refl _) rfl rfl rfl ((by first | exact q_load_row rfl Tryd.underlying9 rfl rfl (by rfl) | exact q_load rfl Tryd.underlying9 rfl rfl (rd_opsT (b := b39) (T := 9) (k := k) (List.mem_cons_self) hk12) | exact q_load rfl Tryd.underlying9 rfl rfl (rd_ptf (i := 0) (j := 0) (hsl47.mono (hJ62.trans hJ69)) (by omega) rfl) | exact q_load rfl Tryd.underlying9 rfl rfl (rd_ptf (i := 0) (j := 1) (hsl47.mono (hJ62.trans hJ69)) (by omega) rfl) | exact q_load rfl Tryd.underlying9 rfl rfl (rd_ptf (i := 0) (j := 2) (hsl47.mono (hJ62.trans hJ69)) (by omega) rfl) | exact q_load rfl Tryd.underlying9 rfl rfl (rd_ptf (i := 0) (j := 1) (hsl62.mono hJ69) (by omega) rfl) | exact q_load rfl Tryd.underlying9 rfl rfl (rd_ptf (i := 0) (j := 2) (hsl62.mono hJ69) (by omega) rfl) | exact q_load rfl Tryd.underlying9 rfl rfl (rd_ptf (i := 0) (j := 3) (hsl62.mono hJ69) (by omega) rfl) | exact q_load rfl Tryd.underlying9 rfl rfl (rd_ptf (i := 0) (j := 1) hsl69 (by omega) rfl) | exact q_load rfl Tryd.underlying9 rfl rfl (rd_ptf (i := 0) (j := 2) hsl69 (by omega) rfl))) ?_
      refine r_qf 6 (by kernel_rfl) rfl rfl rfl rfl (fun _ => q_cat rfl rfl rfl (by first | omega | (simp only [List.length_append, List.length_cons, List.length_nil, List.length_take, List.length_drop]; omega))) ?_
      refine r_qf 7 (by kernel_rfl) rfl rfl rfl rfl (fun _ => q_move rfl rfl) ?_
      refine r_q1 8 (by kernel_rfl) rfl (Le.refl _) rfl rfl rfl (quiet_call rfl rfl rfl Tryd.func15 (by kernel_rfl) rfl ((fun w hw => quote_pure s w (by omega) (hG.mono (hJ47.trans hw.le))))) ?_
      refine r_qf 9 (by kernel_rfl) rfl rfl rfl rfl (fun _ => q_cat rfl rfl rfl (by first | omega | (simp only [List.length_append, List.length_cons, List.length_nil, List.length_take, List.length_drop]; omega))) ?_
      refine r_qf 10 (by kernel_rfl) rfl rfl rfl rfl (fun _ => q_cat rfl rfl rfl (by first | omega | (simp only [List.length_append, List.length_cons, List.length_nil, List.length_take, List.length_drop]; omega))) ?_
      refine r_e 11 (by kernel_rfl) (by kernel_rfl) rfl (Le.refl _) rfl rfl rfl (eff_call rfl rfl rfl Tryd.func9 (by kernel_rfl) rfl (fun w hw => parts_calls ([36, 123] ++ name ++ nth opsT k [] ++ quoteB s ++ [125]) (0) _ _ _ w (by have := quoteB_le s; simp only [List.length_append, List.length_cons, List.length_nil]; omega) (hG.mono hJ47) hw)) ?_
      rintro _ J62 _ ⟨hJ62, rfl, vl62, e62, rfl, hres62⟩
      refine ⟨hJ62, .inr SubC.sub, ?_⟩
      obtain ⟨q, hq⟩ := op_read hk12 hnm (by omega) hs0
      rw [hq] at hres62
      obtain ⟨he62, hpl62⟩ := hres62
      subst he62
      obtain ⟨L62, hL62, hsl62, hWL62⟩ := hpl62.un
      have hln62 := pt_len hL62
      have hsm62 := pt_sum hL62
      have hl62 : L62.length = 1 := hln62
      have p62 := pt_nth hL62 (i := 0) (by omega)
      have hw62 := hWL62 _ (nth_mem (l := L62) (i := 0) (d := pe0) (by omega))
      rw [p62.2.2.2.2] at hw62
      obtain ⟨M, hM, hslM, hWM⟩ := hw62.un
      have hMl : M.length = 1 := pt_len hM
      have hMs : sumT M = s.length := (pt_sum hM).trans (sumP_one (.mk 1 s [] [] q))
      have hst : statP (M.map PE.pt) = some s := by rw [← hM]; exact stat_one s q
      refine r_qf 12 (by kernel_rfl) rfl rfl rfl rfl (fun _ => q_move rfl rfl) ?_
      refine r_qf 13 (by kernel_rfl) rfl rfl rfl rfl (fun _ => q_extract rfl rfl rfl) ?_
      refine r_qf 14 (by kernel_rfl) rfl rfl rfl rfl (fun _ => q_extract rfl rfl rfl) ?_
      refine r_qf 15 (by kernel_rfl) rfl rfl rfl rfl (fun _ => q_assign rfl rfl) ?_
      refine r_qf 16 (by kernel_rfl) rfl rfl rfl rfl (fun _ => q_assign rfl rfl) ?_
      refine r_end (by kernel_rfl) ?_
      refine n_then ?_
      refine t_seq ?_
      refine t_region ?_
      refine l_q rfl rfl rfl (q_move rfl rfl) ?_
      refine l_q rfl rfl rfl (q_cat rfl rfl rfl (by first | omega | (simp only [List.length_append, List.length_cons, List.length_nil, List.length_take, List.length_drop]; omega))) ?_
      refine l_q rfl rfl rfl (q_cat rfl rfl rfl (by first | omega | (simp only [List.length_append, List.length_cons, List.length_nil, List.length_take, List.length_drop]; omega))) ?_
      refine l_e rfl rfl rfl (eff_call rfl rfl rfl Tryd.func9 (by kernel_rfl) rfl (fun w hw => parts_calls ([36, 123, 35] ++ name ++ [125]) (0) _ _ _ w (by simp only [List.length_append, List.length_cons, List.length_nil]; omega) (hG.mono (hJ47.trans hJ62)) hw)) ?_
      rintro _ J69 _ ⟨hJ69, rfl, vl69, e69, rfl, hres69⟩
      rw [len_read hnm (by omega)] at hres69
      obtain ⟨he69, hpl69⟩ := hres69
      subst he69
      obtain ⟨L69, hL69, hsl69, hWL69⟩ := hpl69.un
      have hln69 := pt_len hL69
      have hsm69 := pt_sum hL69
      have hl69 : L69.length = 1 := hln69
      have p69 := pt_nth hL69 (i := 0) (by omega)
      refine l_q rfl rfl rfl (q_move rfl rfl) ?_
      refine l_q rfl rfl rfl (q_extract rfl rfl rfl) ?_
      refine l_q rfl rfl rfl (q_extract rfl rfl rfl) ?_
      refine l_q rfl rfl rfl (q_assign rfl rfl) ?_
      refine l_q rfl rfl rfl (q_assign rfl rfl) ?_
      refine l_nil ?_
      refine n_then ?_
      refine t_seq ?_
      refine t_seq ?_
      refine t_qreg ?_
      refine s_q rfl rfl rfl (q_move rfl rfl) ?_
      refine s_q rfl rfl rfl (q_neq rfl rfl rfl) ?_
      refine s_q rfl rfl rfl (q_move rfl rfl) ?_
      refine s_or2 2 2 74 77 76 _ _ rfl rfl rfl rfl rfl rfl (fun h77 => by
          try simp at h77
          refine s_g rfl rfl rfl rfl rfl rfl (q_move rfl rfl) ?_
          refine s_g rfl rfl rfl rfl rfl rfl (q_neq rfl rfl rfl) ?_
          exact s_val rfl
        ) (wanted_n rfl) rfl rfl rfl ?_
      refine s_q rfl rfl rfl (q_move rfl rfl) ?_
      refine s_or2 2 6 78 81 80 _ _ rfl rfl rfl rfl rfl rfl (fun h81 => by
          try simp at h81
          refine s_g rfl rfl rfl rfl rfl rfl (q_move rfl rfl) ?_
          refine s_g rfl rfl rfl rfl rfl rfl (q_neq rfl rfl rfl) ?_
          exact s_val rfl
        ) (wanted_n rfl) rfl rfl rfl ?_
      refine s_q rfl rfl rfl (q_move rfl rfl) ?_
      refine s_or2 3 10 82 86 85 _ _ rfl rfl rfl rfl rfl rfl (fun h86 => by
          try simp at h86
          refine s_g rfl rfl rfl rfl rfl rfl (q_move rfl rfl) ?_
          refine s_g rfl rfl rfl rfl rfl rfl ((by first | exact q_lenV rfl Tryd.underlying23 rfl | exact q_len rfl Tryd.underlying23 rfl (Sl.lenOf (hsl47.mono (hJ62.trans hJ69)) (List.length_map _)) | exact q_len rfl Tryd.underlying23 rfl (Sl.lenOf (hsl62.mono hJ69) (List.length_map _)) | exact q_len rfl Tryd.underlying23 rfl (Sl.lenOf hsl69 (List.length_map _)))) ?_
          refine s_g rfl rfl rfl rfl rfl rfl (q_neq rfl rfl rfl) ?_
          exact s_val rfl
        ) (wanted_n rfl) rfl rfl rfl ?_
      refine s_q rfl rfl rfl (q_move rfl rfl) ?_
      refine s_or2 3 15 87 91 90 _ _ rfl rfl rfl rfl rfl rfl (fun h91 => by
          try simp at h91
          refine s_g rfl rfl rfl rfl rfl rfl (q_move rfl rfl) ?_
          refine s_g rfl rfl rfl rfl rfl rfl ((by first | exact q_lenV rfl Tryd.underlying23 rfl | exact q_len rfl Tryd.underlying23 rfl (Sl.lenOf (hsl47.mono (hJ62.trans hJ69)) (List.length_map _)) | exact q_len rfl Tryd.underlying23 rfl (Sl.lenOf (hsl62.mono hJ69) (List.length_map _)) | exact q_len rfl Tryd.underlying23 rfl (Sl.lenOf hsl69 (List.length_map _)))) ?_
          refine s_g rfl rfl rfl rfl rfl rfl (q_neq rfl rfl rfl) ?_
          exact s_val rfl
        ) (wanted_n rfl) rfl rfl rfl ?_
      refine s_q rfl rfl rfl (q_move rfl rfl) ?_
      refine s_or2 3 20 92 96 95 _ _ rfl rfl rfl rfl rfl rfl (fun h96 => by
          try simp at h96
          refine s_g rfl rfl rfl rfl rfl rfl (q_move rfl rfl) ?_
          refine s_g rfl rfl rfl rfl rfl rfl ((by first | exact q_lenV rfl Tryd.underlying23 rfl | exact q_len rfl Tryd.underlying23 rfl (Sl.lenOf (hsl47.mono (hJ62.trans hJ69)) (List.length_map _)) | exact q_len rfl Tryd.underlying23 rfl (Sl.lenOf (hsl62.mono hJ69) (List.length_map _)) | exact q_len rfl Tryd.underlying23 rfl (Sl.lenOf hsl69 (List.length_map _)))) ?_
          refine s_g rfl rfl rfl rfl rfl rfl (q_neq rfl rfl rfl) ?_
          exact s_val rfl
        ) (wanted_n rfl) rfl rfl rfl ?_
      refine s_done ?_
      refine n_then ?_
      refine t_cond rfl (fun hc2 => ?_) (fun hc2 => ?_)
      · skip
        exfalso
        have h2 := hc2
        rw [hl47, hl62, hl69] at h2
        simp at h2
      · skip
        refine t_skip ?_
        refine n_then ?_
        refine t_seq ?_
        refine t_region ?_
        refine l_q rfl rfl rfl (q_move rfl rfl) ?_
        refine l_q rfl rfl rfl ((by first | exact q_indexAddrVN rfl Tryd.underlying23 ti32 rfl rfl (by omega) | exact q_indexAddrN rfl Tryd.underlying23 ti32 rfl rfl (Sl.shape (hsl47.mono (hJ62.trans hJ69)) (List.length_map _)) (by omega) | exact q_indexAddrN rfl Tryd.underlying23 ti32 rfl rfl (Sl.shape (hsl62.mono hJ69) (List.length_map _)) (by omega) | exact q_indexAddrN rfl Tryd.underlying23 ti32 rfl rfl (Sl.shape hsl69 (List.length_map _)) (by omega) | exact q_indexAddrN rfl Tryd.underlying23 ti32 rfl rfl (⟨_, _, rfl, fun _ _ h => by cases h; rfl, fun _ h => by cases h⟩) (by omega) | exact q_indexAddrV rfl Tryd.underlying23 ti32 rfl rfl (by omega) | exact q_indexAddr rfl Tryd.underlying23 ti32 rfl rfl (Sl.shape (hsl47.mono (hJ62.trans hJ69)) (List.length_map _)) (by omega) | exact q_indexAddr rfl Tryd.underlying23 ti32 rfl rfl (Sl.shape (hsl62.mono hJ69) (List.length_map _)) (by omega) | exact q_indexAddr rfl Tryd.underlying23 ti32 rfl rfl (Sl.shape hsl69 (List.length_map _)) (by omega) | exact q_indexAddr rfl Tryd.underlying23 ti32 rfl rfl (⟨_, _, rfl, fun _ _ h => by cases h; rfl, fun _ h => by cases h⟩) (by omega))) ?_
        refine l_q rfl rfl rfl (q_fieldAddr rfl Tryd.underlying32 rfl rfl ti23 rfl rfl) ?_
        refine l_q rfl rfl rfl ((by first | exact q_load_row rfl Tryd.underlying23 rfl rfl (by rfl) | exact q_load rfl Tryd.underlying23 rfl rfl (rd_opsT (b := b39) (T := 9) (k := k) (List.mem_cons_self) hk12) | exact q_load rfl Tryd.underlying23 rfl rfl (rd_ptf (i := 0) (j := 0) (hsl47.mono (hJ62.trans hJ69)) (by omega) rfl) | exact q_load rfl Tryd.underlying23 rfl rfl (rd_ptf (i := 0) (j := 1) (hsl47.mono (hJ62.trans hJ69)) (by omega) rfl) | exact q_load rfl Tryd.underlying23 rfl rfl (rd_ptf (i := 0) (j := 2) (hsl47.mono (hJ62.trans hJ69)) (by omega) rfl) | exact q_load rfl Tryd.underlying23 rfl rfl (rd_ptf (i := 0) (j := 1) (hsl62.mono hJ69) (by omega) rfl) | exact q_load rfl Tryd.underlying23 rfl rfl (rd_ptf (i := 0) (j := 2) (hsl62.mono hJ69) (by omega) rfl) | exact q_load rfl Tryd.underlying23 rfl rfl (rd_ptf (i := 0) (j := 3) (hsl62.mono hJ69) (by omega) rfl) | exact q_load rfl Tryd.underlying23 rfl rfl (rd_ptf (i := 0) (j := 1) hsl69 (by omega) rfl) | exact q_load rfl Tryd.underlying23 rfl rfl (rd_ptf (i := 0) (j := 2) hsl69 (by omega) rfl))) ?_
        refine l_q rfl rfl rfl (quiet_call rfl rfl rfl Tryd.func14 (by kernel_rfl) rfl ((fun w hw => static_pure (nth L62 0 pe0).wv M w (by omega) (by omega) (hslM.mono (hJ69.trans hw.le)) (WordsR.mono hWM (hJ69.trans hw.le))))) ?_
        rw [hst]
        refine l_q rfl rfl rfl (q_move rfl rfl) ?_
        refine l_q rfl rfl rfl (q_extract rfl rfl rfl) ?_
        refine l_q rfl rfl rfl (q_extract rfl rfl rfl) ?_
        refine l_q rfl rfl rfl (q_assign rfl rfl) ?_
        refine l_q rfl rfl rfl (q_assign rfl rfl) ?_
        refine l_nil ?_
        refine n_then ?_
        refine t_seq ?_
        refine t_qdraw mo (by kernel_rfl) (fun _ _ _ _ _ h => h) ?_
        refine s_q rfl rfl rfl (q_move rfl rfl) ?_
        refine s_q rfl rfl rfl ((by first | exact q_indexAddrVN rfl Tryd.underlying23 ti32 rfl rfl (by omega) | exact q_indexAddrN rfl Tryd.underlying23 ti32 rfl rfl (Sl.shape (hsl47.mono (hJ62.trans hJ69)) (List.length_map _)) (by omega) | exact q_indexAddrN rfl Tryd.underlying23 ti32 rfl rfl (Sl.shape (hsl62.mono hJ69) (List.length_map _)) (by omega) | exact q_indexAddrN rfl Tryd.underlying23 ti32 rfl rfl (Sl.shape hsl69 (List.length_map _)) (by omega) | exact q_indexAddrN rfl Tryd.underlying23 ti32 rfl rfl (⟨_, _, rfl, fun _ _ h => by cases h; rfl, fun _ h => by cases h⟩) (by omega) | exact q_indexAddrV rfl Tryd.underlying23 ti32 rfl rfl (by omega) | exact q_indexAddr rfl Tryd.underlying23 ti32 rfl rfl (Sl.shape (hsl47.mono (hJ62.trans hJ69)) (List.length_map _)) (by omega) | exact q_indexAddr rfl Tryd.underlying23 ti32 rfl rfl (Sl.shape (hsl62.mono hJ69) (List.length_map _)) (by omega) | exact q_indexAddr rfl Tryd.underlying23 ti32 rfl rfl (Sl.shape hsl69 (List.length_map _)) (by omega) | exact q_indexAddr rfl Tryd.underlying23 ti32 rfl rfl (⟨_, _, rfl, fun _ _ h => by cases h; rfl, fun _ h => by cases h⟩) (by omega))) ?_
        refine s_q rfl rfl rfl (q_fieldAddr rfl Tryd.underlying32 rfl rfl ti3 rfl rfl) ?_
        refine s_q rfl rfl rfl ((by first | exact q_load_row rfl Tryd.underlying3 rfl rfl (by rfl) | exact q_load rfl Tryd.underlying3 rfl rfl (rd_opsT (b := b39) (T := 9) (k := k) (List.mem_cons_self) hk12) | exact q_load rfl Tryd.underlying3 rfl rfl (rd_ptf (i := 0) (j := 0) (hsl47.mono (hJ62.trans hJ69)) (by omega) rfl) | exact q_load rfl Tryd.underlying3 rfl rfl (rd_ptf (i := 0) (j := 1) (hsl47.mono (hJ62.trans hJ69)) (by omega) rfl) | exact q_load rfl Tryd.underlying3 rfl rfl (rd_ptf (i := 0) (j := 2) (hsl47.mono (hJ62.trans hJ69)) (by omega) rfl) | exact q_load rfl Tryd.underlying3 rfl rfl (rd_ptf (i := 0) (j := 1) (hsl62.mono hJ69) (by omega) rfl) | exact q_load rfl Tryd.underlying3 rfl rfl (rd_ptf (i := 0) (j := 2) (hsl62.mono hJ69) (by omega) rfl) | exact q_load rfl Tryd.underlying3 rfl rfl (rd_ptf (i := 0) (j := 3) (hsl62.mono hJ69) (by omega) rfl) | exact q_load rfl Tryd.underlying3 rfl rfl (rd_ptf (i := 0) (j := 1) hsl69 (by omega) rfl) | exact q_load rfl Tryd.underlying3 rfl rfl (rd_ptf (i := 0) (j := 2) hsl69 (by omega) rfl))) ?_
        refine s_q rfl rfl rfl (q_eql rfl rfl rfl) ?_
        refine s_q rfl rfl rfl (q_move rfl rfl) ?_
        refine s_and2 6 5 110 117 116 _ _ rfl rfl rfl rfl rfl rfl (fun h117 => by
            try simp at h117
            refine s_g rfl rfl rfl rfl rfl rfl (q_move rfl rfl) ?_
            refine s_g rfl rfl rfl rfl rfl rfl ((by first | exact q_indexAddrVN rfl Tryd.underlying23 ti32 rfl rfl (by omega) | exact q_indexAddrN rfl Tryd.underlying23 ti32 rfl rfl (Sl.shape (hsl47.mono (hJ62.trans hJ69)) (List.length_map _)) (by omega) | exact q_indexAddrN rfl Tryd.underlying23 ti32 rfl rfl (Sl.shape (hsl62.mono hJ69) (List.length_map _)) (by omega) | exact q_indexAddrN rfl Tryd.underlying23 ti32 rfl rfl (Sl.shape hsl69 (List.length_map _)) (by omega) | exact q_indexAddrN rfl Tryd.underlying23 ti32 rfl rfl (⟨_, _, rfl, fun _ _ h => by cases h; rfl, fun _ h => by cases h⟩) (by omega) | exact q_indexAddrV rfl Tryd.underlying23 ti32 rfl rfl (by omega) | exact q_indexAddr rfl Tryd.underlying23 ti32 rfl rfl (Sl.shape (hsl47.mono (hJ62.trans hJ69)) (List.length_map _)) (by omega) | exact q_indexAddr rfl Tryd.underlying23 ti32 rfl rfl (Sl.shape (hsl62.mono hJ69) (List.length_map _)) (by omega) | exact q_indexAddr rfl Tryd.underlying23 ti32 rfl rfl (Sl.shape hsl69 (List.length_map _)) (by omega) | exact q_indexAddr rfl Tryd.underlying23 ti32 rfl rfl (⟨_, _, rfl, fun _ _ h => by cases h; rfl, fun _ h => by cases h⟩) (by omega))) ?_
            refine s_g rfl rfl rfl rfl rfl rfl (q_fieldAddr rfl Tryd.underlying32 rfl rfl ti9 rfl rfl) ?_
            refine s_g rfl rfl rfl rfl rfl rfl ((by first | exact q_load_row rfl Tryd.underlying9 rfl rfl (by rfl) | exact q_load rfl Tryd.underlying9 rfl rfl (rd_opsT (b := b39) (T := 9) (k := k) (List.mem_cons_self) hk12) | exact q_load rfl Tryd.underlying9 rfl rfl (rd_ptf (i := 0) (j := 0) (hsl47.mono (hJ62.trans hJ69)) (by omega) rfl) | exact q_load rfl Tryd.underlying9 rfl rfl (rd_ptf (i := 0) (j := 1) (hsl47.mono (hJ62.trans hJ69)) (by omega) rfl) | exact q_load rfl Tryd.underlying9 rfl rfl (rd_ptf (i := 0) (j := 2) (hsl47.mono (hJ62.trans hJ69)) (by omega) rfl) | exact q_load rfl Tryd.underlying9 rfl rfl (rd_ptf (i := 0) (j := 1) (hsl62.mono hJ69) (by omega) rfl) | exact q_load rfl Tryd.underlying9 rfl rfl (rd_ptf (i := 0) (j := 2) (hsl62.mono hJ69) (by omega) rfl) | exact q_load rfl Tryd.underlying9 rfl rfl (rd_ptf (i := 0) (j := 3) (hsl62.mono hJ69) (by omega) rfl) | exact q_load rfl Tryd.underlying9 rfl rfl (rd_ptf (i := 0) (j := 1) hsl69 (by omega) rfl) | exact q_load rfl Tryd.underlying9 rfl rfl (rd_ptf (i := 0) (j := 2) hsl69 (by omega) rfl))) ?_
            refine s_g rfl rfl rfl rfl rfl rfl (q_move rfl rfl) ?_
            refine s_g rfl rfl rfl rfl rfl rfl (q_eql_str rfl rfl rfl) ?_
            exact s_val rfl
          ) (wanted_n rfl) rfl rfl rfl ?_
        refine s_q rfl rfl rfl (q_move rfl rfl) ?_
        refine s_and2 5 13 118 124 123 _ _ rfl rfl rfl rfl rfl rfl (fun h124 => by
            try simp at h124
            refine s_g rfl rfl rfl rfl rfl rfl (q_move rfl rfl) ?_
            refine s_g rfl rfl rfl rfl rfl rfl ((by first | exact q_indexAddrVN rfl Tryd.underlying23 ti32 rfl rfl (by omega) | exact q_indexAddrN rfl Tryd.underlying23 ti32 rfl rfl (Sl.shape (hsl47.mono (hJ62.trans hJ69)) (List.length_map _)) (by omega) | exact q_indexAddrN rfl Tryd.underlying23 ti32 rfl rfl (Sl.shape (hsl62.mono hJ69) (List.length_map _)) (by omega) | exact q_indexAddrN rfl Tryd.underlying23 ti32 rfl rfl (Sl.shape hsl69 (List.length_map _)) (by omega) | exact q_indexAddrN rfl Tryd.underlying23 ti32 rfl rfl (⟨_, _, rfl, fun _ _ h => by cases h; rfl, fun _ h => by cases h⟩) (by omega) | exact q_indexAddrV rfl Tryd.underlying23 ti32 rfl rfl (by omega) | exact q_indexAddr rfl Tryd.underlying23 ti32 rfl rfl (Sl.shape (hsl47.mono (hJ62.trans hJ69)) (List.length_map _)) (by omega) | exact q_indexAddr rfl Tryd.underlying23 ti32 rfl rfl (Sl.shape (hsl62.mono hJ69) (List.length_map _)) (by omega) | exact q_indexAddr rfl Tryd.underlying23 ti32 rfl rfl (Sl.shape hsl69 (List.length_map _)) (by omega) | exact q_indexAddr rfl Tryd.underlying23 ti32 rfl rfl (⟨_, _, rfl, fun _ _ h => by cases h; rfl, fun _ h => by cases h⟩) (by omega))) ?_
            refine s_g rfl rfl rfl rfl rfl rfl (q_fieldAddr rfl Tryd.underlying32 rfl rfl ti9 rfl rfl) ?_
            refine s_g rfl rfl rfl rfl rfl rfl ((by first | exact q_load_row rfl Tryd.underlying9 rfl rfl (by rfl) | exact q_load rfl Tryd.underlying9 rfl rfl (rd_opsT (b := b39) (T := 9) (k := k) (List.mem_cons_self) hk12) | exact q_load rfl Tryd.underlying9 rfl rfl (rd_ptf (i := 0) (j := 0) (hsl47.mono (hJ62.trans hJ69)) (by omega) rfl) | exact q_load rfl Tryd.underlying9 rfl rfl (rd_ptf (i := 0) (j := 1) (hsl47.mono (hJ62.trans hJ69)) (by omega) rfl) | exact q_load rfl Tryd.underlying9 rfl rfl (rd_ptf (i := 0) (j := 2) (hsl47.mono (hJ62.trans hJ69)) (by omega) rfl) | exact q_load rfl Tryd.underlying9 rfl rfl (rd_ptf (i := 0) (j := 1) (hsl62.mono hJ69) (by omega) rfl) | exact q_load rfl Tryd.underlying9 rfl rfl (rd_ptf (i := 0) (j := 2) (hsl62.mono hJ69) (by omega) rfl) | exact q_load rfl Tryd.underlying9 rfl rfl (rd_ptf (i := 0) (j := 3) (hsl62.mono hJ69) (by omega) rfl) | exact q_load rfl Tryd.underlying9 rfl rfl (rd_ptf (i := 0) (j := 1) hsl69 (by omega) rfl) | exact q_load rfl Tryd.underlying9 rfl rfl (rd_ptf (i := 0) (j := 2) hsl69 (by omega) rfl))) ?_
            refine s_g rfl rfl rfl rfl rfl rfl (q_eql_str rfl rfl rfl) ?_
            exact s_val rfl
          ) (wanted_n rfl) rfl rfl rfl ?_
        refine s_q rfl rfl rfl (q_move rfl rfl) ?_
        refine s_and2 6 20 125 132 131 _ _ rfl rfl rfl rfl rfl rfl (fun h132 => by
            try simp at h132
            refine s_g rfl rfl rfl rfl rfl rfl (q_move rfl rfl) ?_
            refine s_g rfl rfl rfl rfl rfl rfl ((by first | exact q_indexAddrVN rfl Tryd.underlying23 ti32 rfl rfl (by omega) | exact q_indexAddrN rfl Tryd.underlying23 ti32 rfl rfl (Sl.shape (hsl47.mono (hJ62.trans hJ69)) (List.length_map _)) (by omega) | exact q_indexAddrN rfl Tryd.underlying23 ti32 rfl rfl (Sl.shape (hsl62.mono hJ69) (List.length_map _)) (by omega) | exact q_indexAddrN rfl Tryd.underlying23 ti32 rfl rfl (Sl.shape hsl69 (List.length_map _)) (by omega) | exact q_indexAddrN rfl Tryd.underlying23 ti32 rfl rfl (⟨_, _, rfl, fun _ _ h => by cases h; rfl, fun _ h => by cases h⟩) (by omega) | exact q_indexAddrV rfl Tryd.underlying23 ti32 rfl rfl (by omega) | exact q_indexAddr rfl Tryd.underlying23 ti32 rfl rfl (Sl.shape (hsl47.mono (hJ62.trans hJ69)) (List.length_map _)) (by omega) | exact q_indexAddr rfl Tryd.underlying23 ti32 rfl rfl (Sl.shape (hsl62.mono hJ69) (List.length_map _)) (by omega) | exact q_indexAddr rfl Tryd.underlying23 ti32 rfl rfl (Sl.shape hsl69 (List.length_map _)) (by omega) | exact q_indexAddr rfl Tryd.underlying23 ti32 rfl rfl (⟨_, _, rfl, fun _ _ h => by cases h; rfl, fun _ h => by cases h⟩) (by omega))) ?_
            refine s_g rfl rfl rfl rfl rfl rfl (q_fieldAddr rfl Tryd.underlying32 rfl rfl ti9 rfl rfl) ?_
            refine s_g rfl rfl rfl rfl rfl rfl ((by first | exact q_load_row rfl Tryd.underlying9 rfl rfl (by rfl) | exact q_load rfl Tryd.underlying9 rfl rfl (rd_opsT (b := b39) (T := 9) (k := k) (List.mem_cons_self) hk12) | exact q_load rfl Tryd.underlying9 rfl rfl (rd_ptf (i := 0) (j := 0) (hsl47.mono (hJ62.trans hJ69)) (by omega) rfl) | exact q_load rfl Tryd.underlying9 rfl rfl (rd_ptf (i := 0) (j := 1) (hsl47.mono (hJ62.trans hJ69)) (by omega) rfl) | exact q_load rfl Tryd.underlying9 rfl rfl (rd_ptf (i := 0) (j := 2) (hsl47.mono (hJ62.trans hJ69)) (by omega) rfl) | exact q_load rfl Tryd.underlying9 rfl rfl (rd_ptf (i := 0) (j := 1) (hsl62.mono hJ69) (by omega) rfl) | exact q_load rfl Tryd.underlying9 rfl rfl (rd_ptf (i := 0) (j := 2) (hsl62.mono hJ69) (by omega) rfl) | exact q_load rfl Tryd.underlying9 rfl rfl (rd_ptf (i := 0) (j := 3) (hsl62.mono hJ69) (by omega) rfl) | exact q_load rfl Tryd.underlying9 rfl rfl (rd_ptf (i := 0) (j := 1) hsl69 (by omega) rfl) | exact q_load rfl Tryd.underlying9 rfl rfl (rd_ptf (i := 0) (j := 2) hsl69 (by omega) rfl))) ?_
            refine s_g rfl rfl rfl rfl rfl rfl (q_move rfl rfl) ?_
            refine s_g rfl rfl rfl rfl rfl rfl (q_eql_str rfl rfl rfl) ?_
            exact s_val rfl
          ) (wanted_n rfl) rfl rfl rfl ?_
        refine s_q rfl rfl rfl (q_move rfl rfl) ?_
        refine s_and2 5 28 133 139 138 _ _ rfl rfl rfl rfl rfl rfl (fun h139 => by
            try simp at h139
            refine s_g rfl rfl rfl rfl rfl rfl (q_move rfl rfl) ?_
            refine s_g rfl rfl rfl rfl rfl rfl ((by first | exact q_indexAddrVN rfl Tryd.underlying23 ti32 rfl rfl (by omega) | exact q_indexAddrN rfl Tryd.underlying23 ti32 rfl rfl (Sl.shape (hsl47.mono (hJ62.trans hJ69)) (List.length_map _)) (by omega) | exact q_indexAddrN rfl Tryd.underlying23 ti32 rfl rfl (Sl.shape (hsl62.mono hJ69) (List.length_map _)) (by omega) | exact q_indexAddrN rfl Tryd.underlying23 ti32 rfl rfl (Sl.shape hsl69 (List.length_map _)) (by omega) | exact q_indexAddrN rfl Tryd.underlying23 ti32 rfl rfl (⟨_, _, rfl, fun _ _ h => by cases h; rfl, fun _ h => by cases h⟩) (by omega) | exact q_indexAddrV rfl Tryd.underlying23 ti32 rfl rfl (by omega) | exact q_indexAddr rfl Tryd.underlying23 ti32 rfl rfl (Sl.shape (hsl47.mono (hJ62.trans hJ69)) (List.length_map _)) (by omega) | exact q_indexAddr rfl Tryd.underlying23 ti32 rfl rfl (Sl.shape (hsl62.mono hJ69) (List.length_map _)) (by omega) | exact q_indexAddr rfl Tryd.underlying23 ti32 rfl rfl (Sl.shape hsl69 (List.length_map _)) (by omega) | exact q_indexAddr rfl Tryd.underlying23 ti32 rfl rfl (⟨_, _, rfl, fun _ _ h => by cases h; rfl, fun _ h => by cases h⟩) (by omega))) ?_
            refine s_g rfl rfl rfl rfl rfl rfl (q_fieldAddr rfl Tryd.underlying32 rfl rfl ti9 rfl rfl) ?_
            refine s_g rfl rfl rfl rfl rfl rfl ((by first | exact q_load_row rfl Tryd.underlying9 rfl rfl (by rfl) | exact q_load rfl Tryd.underlying9 rfl rfl (rd_opsT (b := b39) (T := 9) (k := k) (List.mem_cons_self) hk12) | exact q_load rfl Tryd.underlying9 rfl rfl (rd_ptf (i := 0) (j := 0) (hsl47.mono (hJ62.trans hJ69)) (by omega) rfl) | exact q_load rfl Tryd.underlying9 rfl rfl (rd_ptf (i := 0) (j := 1) (hsl47.mono (hJ62.trans hJ69)) (by omega) rfl) | exact q_load rfl Tryd.underlying9 rfl rfl (rd_ptf (i := 0) (j := 2) (hsl47.mono (hJ62.trans hJ69)) (by omega) rfl) | exact q_load rfl Tryd.underlying9 rfl rfl (rd_ptf (i := 0) (j := 1) (hsl62.mono hJ69) (by omega) rfl) | exact q_load rfl Tryd.underlying9 rfl rfl (rd_ptf (i := 0) (j := 2) (hsl62.mono hJ69) (by omega) rfl) | exact q_load rfl Tryd.underlying9 rfl rfl (rd_ptf (i := 0) (j := 3) (hsl62.mono hJ69) (by omega) rfl) | exact q_load rfl Tryd.underlying9 rfl rfl (rd_ptf (i := 0) (j := 1) hsl69 (by omega) rfl) | exact q_load rfl Tryd.underlying9 rfl rfl (rd_ptf (i := 0) (j := 2) hsl69 (by omega) rfl))) ?_
            refine s_g rfl rfl rfl rfl rfl rfl (q_eql_str rfl rfl rfl) ?_
            exact s_val rfl
          ) (wanted_n rfl) rfl rfl rfl ?_
        refine s_q rfl rfl rfl (q_move rfl rfl) ?_
        refine s_and2 6 35 140 147 146 _ _ rfl rfl rfl rfl rfl rfl (fun h147 => by
            try simp at h147
            refine s_g rfl rfl rfl rfl rfl rfl (q_move rfl rfl) ?_
            refine s_g rfl rfl rfl rfl rfl rfl ((by first | exact q_indexAddrVN rfl Tryd.underlying23 ti32 rfl rfl (by omega) | exact q_indexAddrN rfl Tryd.underlying23 ti32 rfl rfl (Sl.shape (hsl47.mono (hJ62.trans hJ69)) (List.length_map _)) (by omega) | exact q_indexAddrN rfl Tryd.underlying23 ti32 rfl rfl (Sl.shape (hsl62.mono hJ69) (List.length_map _)) (by omega) | exact q_indexAddrN rfl Tryd.underlying23 ti32 rfl rfl (Sl.shape hsl69 (List.length_map _)) (by omega) | exact q_indexAddrN rfl Tryd.underlying23 ti32 rfl rfl (⟨_, _, rfl, fun _ _ h => by cases h; rfl, fun _ h => by cases h⟩) (by omega) | exact q_indexAddrV rfl Tryd.underlying23 ti32 rfl rfl (by omega) | exact q_indexAddr rfl Tryd.underlying23 ti32 rfl rfl (Sl.shape (hsl47.mono (hJ62.trans hJ69)) (List.length_map _)) (by omega) | exact q_indexAddr rfl Tryd.underlying23 ti32 rfl rfl (Sl.shape (hsl62.mono hJ69) (List.length_map _)) (by omega) | exact q_indexAddr rfl Tryd.underlying23 ti32 rfl rfl (Sl.shape hsl69 (List.length_map _)) (by omega) | exact q_indexAddr rfl Tryd.underlying23 ti32 rfl rfl (⟨_, _, rfl, fun _ _ h => by cases h; rfl, fun _ h => by cases h⟩) (by omega))) ?_
            refine s_g rfl rfl rfl rfl rfl rfl (q_fieldAddr rfl Tryd.underlying32 rfl rfl ti9 rfl rfl) ?_
            refine s_g rfl rfl rfl rfl rfl rfl ((by first | exact q_load_row rfl Tryd.underlying9 rfl rfl (by rfl) | exact q_load rfl Tryd.underlying9 rfl rfl (rd_opsT (b := b39) (T := 9) (k := k) (List.mem_cons_self) hk12) | exact q_load rfl Tryd.underlying9 rfl rfl (rd_ptf (i := 0) (j := 0) (hsl47.mono (hJ62.trans hJ69)) (by omega) rfl) | exact q_load rfl Tryd.underlying9 rfl rfl (rd_ptf (i := 0) (j := 1) (hsl47.mono (hJ62.trans hJ69)) (by omega) rfl) | exact q_load rfl Tryd.underlying9 rfl rfl (rd_ptf (i := 0) (j := 2) (hsl47.mono (hJ62.trans hJ69)) (by omega) rfl) | exact q_load rfl Tryd.underlying9 rfl rfl (rd_ptf (i := 0) (j := 1) (hsl62.mono hJ69) (by omega) rfl) | exact q_load rfl Tryd.underlying9 rfl rfl (rd_ptf (i := 0) (j := 2) (hsl62.mono hJ69) (by omega) rfl) | exact q_load rfl Tryd.underlying9 rfl rfl (rd_ptf (i := 0) (j := 3) (hsl62.mono hJ69) (by omega) rfl) | exact q_load rfl Tryd.underlying9 rfl rfl (rd_ptf (i := 0) (j := 1) hsl69 (by omega) rfl) | exact q_load rfl Tryd.underlying9 rfl rfl (rd_ptf (i := 0) (j := 2) hsl69 (by omega) rfl))) ?_
            refine s_g rfl rfl rfl rfl rfl rfl (q_move rfl rfl) ?_
            refine s_g rfl rfl rfl rfl rfl rfl (q_eql_str rfl rfl rfl) ?_
            exact s_val rfl
          ) (wanted_n rfl) rfl rfl rfl ?_
        refine s_q rfl rfl rfl (q_move rfl rfl) ?_
        refine s_and2 1 43 148 150 149 _ _ rfl rfl rfl rfl rfl rfl (fun h150 => by
            try simp at h150
            refine s_g rfl rfl rfl rfl rfl rfl (q_move rfl rfl) ?_
            exact s_val rfl
          ) (wanted_n rfl) rfl rfl rfl ?_
        refine s_q rfl rfl rfl (q_move rfl rfl) ?_
        refine s_and2 3 46 151 155 154 _ _ rfl rfl rfl rfl rfl rfl (fun h155 => by
            try simp at h155
            refine s_g rfl rfl rfl rfl rfl rfl (q_move rfl rfl) ?_
            refine s_g rfl rfl rfl rfl rfl rfl (q_move rfl rfl) ?_
            refine s_g rfl rfl rfl rfl rfl rfl (q_eql_str rfl rfl rfl) ?_
            exact s_val rfl
          ) (wanted_n rfl) rfl rfl rfl ?_
        refine s_q rfl rfl rfl (q_move rfl rfl) ?_
        refine s_and2 9 51 156 166 165 _ _ rfl rfl rfl rfl rfl rfl (fun h166 => by
            try simp at h166
            refine s_g rfl rfl rfl rfl rfl rfl (q_move rfl rfl) ?_
            refine s_g rfl rfl rfl rfl rfl rfl ((by first | exact q_indexAddrVN rfl Tryd.underlying23 ti32 rfl rfl (by omega) | exact q_indexAddrN rfl Tryd.underlying23 ti32 rfl rfl (Sl.shape (hsl47.mono (hJ62.trans hJ69)) (List.length_map _)) (by omega) | exact q_indexAddrN rfl Tryd.underlying23 ti32 rfl rfl (Sl.shape (hsl62.mono hJ69) (List.length_map _)) (by omega) | exact q_indexAddrN rfl Tryd.underlying23 ti32 rfl rfl (Sl.shape hsl69 (List.length_map _)) (by omega) | exact q_indexAddrN rfl Tryd.underlying23 ti32 rfl rfl (⟨_, _, rfl, fun _ _ h => by cases h; rfl, fun _ h => by cases h⟩) (by omega) | exact q_indexAddrV rfl Tryd.underlying23 ti32 rfl rfl (by omega) | exact q_indexAddr rfl Tryd.underlying23 ti32 rfl rfl (Sl.shape (hsl47.mono (hJ62.trans hJ69)) (List.length_map _)) (by omega) | exact q_indexAddr rfl Tryd.underlying23 ti32 rfl rfl (Sl.shape (hsl62.mono hJ69) (List.length_map _)) (by omega) | exact q_indexAddr rfl Tryd.underlying23 ti32 rfl rfl (Sl.shape hsl69 (List.length_map _)) (by omega) | exact q_indexAddr rfl Tryd.underlying23 ti32 rfl rfl (⟨_, _, rfl, fun _ _ h => by cases h; rfl, fun _ h => by cases h⟩) (by omega))) ?_
            refine s_g rfl rfl rfl rfl rfl rfl (q_fieldAddr rfl Tryd.underlying32 rfl rfl ti9 rfl rfl) ?_
            refine s_g rfl rfl rfl rfl rfl rfl ((by first | exact q_load_row rfl Tryd.underlying9 rfl rfl (by rfl) | exact q_load rfl Tryd.underlying9 rfl rfl (rd_opsT (b := b39) (T := 9) (k := k) (List.mem_cons_self) hk12) | exact q_load rfl Tryd.underlying9 rfl rfl (rd_ptf (i := 0) (j := 0) (hsl47.mono (hJ62.trans hJ69)) (by omega) rfl) | exact q_load rfl Tryd.underlying9 rfl rfl (rd_ptf (i := 0) (j := 1) (hsl47.mono (hJ62.trans hJ69)) (by omega) rfl) | exact q_load rfl Tryd.underlying9 rfl rfl (rd_ptf (i := 0) (j := 2) (hsl47.mono (hJ62.trans hJ69)) (by omega) rfl) | exact q_load rfl Tryd.underlying9 rfl rfl (rd_ptf (i := 0) (j := 1) (hsl62.mono hJ69) (by omega) rfl) | exact q_load rfl Tryd.underlying9 rfl rfl (rd_ptf (i := 0) (j := 2) (hsl62.mono hJ69) (by omega) rfl) | exact q_load rfl Tryd.underlying9 rfl rfl (rd_ptf (i := 0) (j := 3) (hsl62.mono hJ69) (by omega) rfl) | exact q_load rfl Tryd.underlying9 rfl rfl (rd_ptf (i := 0) (j := 1) hsl69 (by omega) rfl) | exact q_load rfl Tryd.underlying9 rfl rfl (rd_ptf (i := 0) (j := 2) hsl69 (by omega) rfl))) ?_
            refine s_g rfl rfl rfl rfl rfl rfl (q_move rfl rfl) ?_
            refine s_g rfl rfl rfl rfl rfl rfl (q_move rfl rfl) ?_
            refine s_g rfl rfl rfl rfl rfl rfl ((by first | exact q_indexAddrVN rfl Tryd.underlying40 ti9 rfl rfl (by omega) | exact q_indexAddrN rfl Tryd.underlying40 ti9 rfl rfl (Sl.shape (hsl47.mono (hJ62.trans hJ69)) (List.length_map _)) (by omega) | exact q_indexAddrN rfl Tryd.underlying40 ti9 rfl rfl (Sl.shape (hsl62.mono hJ69) (List.length_map _)) (by omega) | exact q_indexAddrN rfl Tryd.underlying40 ti9 rfl rfl (Sl.shape hsl69 (List.length_map _)) (by omega) | exact q_indexAddrN rfl Tryd.underlying40 ti9 rfl rfl (⟨_, _, rfl, fun _ _ h => by cases h; rfl, fun _ h => by cases h⟩) (by omega) | exact q_indexAddrV rfl Tryd.underlying40 ti9 rfl rfl (by omega) | exact q_indexAddr rfl Tryd.underlying40 ti9 rfl rfl (Sl.shape (hsl47.mono (hJ62.trans hJ69)) (List.length_map _)) (by omega) | exact q_indexAddr rfl Tryd.underlying40 ti9 rfl rfl (Sl.shape (hsl62.mono hJ69) (List.length_map _)) (by omega) | exact q_indexAddr rfl Tryd.underlying40 ti9 rfl rfl (Sl.shape hsl69 (List.length_map _)) (by omega) | exact q_indexAddr rfl Tryd.underlying40 ti9 rfl rfl (⟨_, _, rfl, fun _ _ h => by cases h; rfl, fun _ h => by cases h⟩) (by omega))) ?_
            refine s_g rfl rfl rfl rfl rfl rfl ((by first | exact q_load_row rfl Tryd.underlying9 rfl rfl (by rfl) | exact q_load rfl Tryd.underlying9 rfl rfl (rd_opsT (b := b39) (T := 9) (k := k) (List.mem_cons_self) hk12) | exact q_load rfl Tryd.underlying9 rfl rfl (rd_ptf (i := 0) (j := 0) (hsl47.mono (hJ62.trans hJ69)) (by omega) rfl) | exact q_load rfl Tryd.underlying9 rfl rfl (rd_ptf (i := 0) (j := 1) (hsl47.mono (hJ62.trans hJ69)) (by omega) rfl) | exact q_load rfl Tryd.underlying9 rfl rfl (rd_ptf (i := 0) (j := 2) (hsl47.mono (hJ62.trans hJ69)) (by omega) rfl) | exact q_load rfl Tryd.underlying9 rfl rfl (rd_ptf (i := 0) (j := 1) (hsl62.mono hJ69) (by omega) rfl) | exact q_load rfl Tryd.underlying9 rfl rfl (rd_ptf (i := 0) (j := 2) (hsl62.mono hJ69) (by omega) rfl) | exact q_load rfl Tryd.underlying9 rfl rfl (rd_ptf (i := 0) (j := 3) (hsl62.mono hJ69) (by omega) rfl) | exact q_load rfl Tryd.underlying9 rfl rfl (rd_ptf (i := 0) (j := 1) hsl69 (by omega) rfl) | exact q_load rfl Tryd.underlying9 rfl rfl (rd_ptf (i := 0) (j := 2) hsl69 (by omega) rfl))) ?_
            refine s_g rfl rfl rfl rfl rfl rfl (q_eql_str rfl rfl rfl) ?_
            exact s_val rfl
          ) (wanted_n rfl) rfl rfl rfl ?_
        refine s_q rfl rfl rfl (q_assign rfl rfl) ?_
        refine s_done ?_
        refine n_then ?_
        refine t_ret ?_
        refine n_ret1 rfl rfl (fun w' hw => ?_)
        -- leaf 1
        refine ⟨?_, (hw.less ((hJ47.trans hJ62).trans hJ69)).below⟩
        refine congrArg (fun b => Ending.returned (Value.bool b)) (?_ : _ = true)
        rw [p47.1, p47.2.1, p47.2.2.1, p62.2.1, p62.2.2.1, p69.2.1, p69.2.2.1]
        simp [nth, PT.kind, PT.text, PT.op, lenW]
end Go.Tri
