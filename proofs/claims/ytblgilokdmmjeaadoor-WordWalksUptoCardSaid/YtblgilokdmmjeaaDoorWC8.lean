/-
  The statement: WordWalks.
-/
import Derived.Test.YtblgilokdmmjeaaDoorWC7
namespace Go.Tri
open Go.Proofs Go.RowKit
theorem parts_bound5 {s : List UInt8} {k : Int} {l : List PT} (h : partsP s k = .ok l) : l.length ≤ s.length ∧ sumP l ≤ s.length := by
  unfold partsP at h
  split at h
  · cases h
  · split at h
    · cases h
    · exact wP_bound 24 _ _ _ h
set_option maxRecDepth 10000 in
theorem wordWalks_pure (s : List UInt8) (kind stop : Int) (w : World) (hs : s.length ≤ 1048576) (hG : EnvI (look w)) : Pure Tryd.prog 3 [str s, .int .i64 kind, .int .i64 stop] w (.bool true) := by
  refine enterMN Tryd.func3 rfl Tryd.ntmps3 rfl (St.start w (look w) (Le.refl _)) ?_
  refine t_seq ?_
  refine t_region ?_
  refine l_e rfl rfl rfl (e_box rfl rfl (by first | exact One.cells (by assumption) | exact One.cells hsl31.one | rfl)) ?_
  rintro _ _ _ ⟨b5, rfl, rfl, rfl⟩
  refine l_e rfl rfl rfl (e_alloc rfl ti4 rfl) ?_
  rintro _ _ _ ⟨b6, rfl, rfl, rfl⟩
  refine l_nil ?_
  refine n_then ?_
  refine t_seq ?_
  refine t_seq ?_
  refine t_region ?_
  refine l_q rfl rfl rfl (quiet_call rfl rfl rfl Tryd.func8 (by kernel_rfl) rfl ((fun w hw => awake_pure w (hG.mono hw.le)))) ?_
  refine l_q rfl rfl rfl (q_not rfl rfl) ?_
  refine l_nil ?_
  refine n_then ?_
  refine t_cond rfl (fun hc0 => ?_) (fun hc0 => ?_)
  · skip
    try simp at hc0
  · skip
    try simp at hc0
    refine t_skip ?_
    refine n_then ?_
    refine t_seq ?_
    refine t_seq ?_
    refine t_region ?_
    refine l_q rfl rfl rfl (q_move rfl rfl) ?_
    refine l_q rfl rfl rfl (q_len_str rfl Tryd.underlying9 rfl) ?_
    refine l_q rfl rfl rfl (q_gtr rfl rfl rfl) ?_
    refine l_nil ?_
    refine n_then ?_
    refine t_cond rfl (fun hc1 => ?_) (fun hc1 => ?_)
    · skip
      try simp at hc1
      refine t_seq ?_
      refine t_region ?_
      refine l_e0 rfl rfl (e_storeS rfl ti4 rfl rfl (by first | exact ⟨rfl, rfl⟩ | assumption | exact hsl31.one) rfl (by first | (simp only [List.set_cons_succ, List.set_cons_zero]; rfl) | rfl)) ?_
      rintro _ _ _ ⟨rfl, rfl⟩
      refine l_nil ?_
      refine n_then ?_
      refine t_ret ?_
      refine n_ret_then ?_
      refine n_np_ret ?_
      refine n_retGM (bs := []) (.inl rfl) rfl (by exact res_cell rfl Tryd.underlying4 rfl (by first | exact rd_rowI rfl | exact rd_ptf (i := n) (j := 0) (hsl31.mono hJ33) (by omega) rfl | exact rd_ptf (i := n) (j := 1) (hsl31.mono hJ33) (by omega) rfl | exact rd_ptf (i := n) (j := 2) (hsl31.mono hJ33) (by omega) rfl | exact rd_ptf (i := n) (j := 4) (hsl31.mono hJ33) (by omega) rfl) (res_nil)) (fun w' hw => ?_)
      -- leaf 0
      exact ⟨rfl, hw.below⟩
    · skip
      try simp at hc1
      have hs3 : s.length ≤ 3000 := by omega
      refine t_skip ?_
      refine n_then ?_
      refine t_seq ?_
      refine t_region ?_
      refine l_q rfl rfl rfl (q_move rfl rfl) ?_
      refine l_q rfl rfl rfl (q_move rfl rfl) ?_
      refine l_e rfl rfl rfl (eff_call rfl rfl rfl Tryd.func9 (by kernel_rfl) rfl (fun w hw => parts_calls (s) (kind) _ _ _ w (by omega) (hG) hw)) ?_
      rintro _ J22 _ ⟨hJ22, rfl, vl22, e22, rfl, hres22⟩
      refine l_q rfl rfl rfl (q_move rfl rfl) ?_
      refine l_q rfl rfl rfl (q_extract rfl rfl rfl) ?_
      refine l_q rfl rfl rfl (q_extract rfl rfl rfl) ?_
      refine l_q rfl rfl rfl (q_assign rfl rfl) ?_
      refine l_q rfl rfl rfl (q_assign rfl rfl) ?_
      refine l_nil ?_
      refine n_then ?_
      refine t_seq ?_
      refine t_seq ?_
      refine t_region ?_
      refine l_q rfl rfl rfl (q_move rfl rfl) ?_
      refine l_q rfl rfl rfl (q_neq rfl rfl rfl) ?_
      refine l_nil ?_
      refine n_then ?_
      refine t_cond rfl (fun hc2 => ?_) (fun hc2 => ?_)
      · skip
        try simp at hc2
        have he : e22 ≠ 0 := by omega
        obtain ⟨_, hv⟩ := hres22.f he
        subst hv
        refine t_seq ?_
        refine t_region ?_
        refine l_q rfl rfl rfl (q_move rfl rfl) ?_
        refine l_q rfl rfl rfl ((by first | exact q_lenV rfl Tryd.underlying23 rfl | exact q_len rfl Tryd.underlying23 rfl (⟨_, _, rfl⟩) | exact q_len rfl Tryd.underlying23 rfl (Sl.lenOf (hsl31.mono hJ33) (List.length_map _)) | exact q_len rfl Tryd.underlying23 rfl (Sl.lenOf (hsl22.mono (hJ31.trans hJ33)) (List.length_map _)))) ?_
        refine l_q rfl rfl rfl (q_eql rfl rfl rfl) ?_
        refine l_e0 rfl rfl (e_storeS rfl ti4 rfl rfl (by first | exact ⟨rfl, rfl⟩ | assumption | exact hsl31.one) rfl (by first | (simp only [List.set_cons_succ, List.set_cons_zero]; rfl) | rfl)) ?_
        rintro _ _ _ ⟨rfl, rfl⟩
        refine l_nil ?_
        refine n_then ?_
        refine t_ret ?_
        refine n_ret_then ?_
        refine n_np_ret ?_
        refine n_retGM (bs := []) (.inl rfl) rfl (by exact res_cell rfl Tryd.underlying4 rfl (by first | exact rd_rowI rfl | exact rd_ptf (i := n) (j := 0) (hsl31.mono hJ33) (by omega) rfl | exact rd_ptf (i := n) (j := 1) (hsl31.mono hJ33) (by omega) rfl | exact rd_ptf (i := n) (j := 2) (hsl31.mono hJ33) (by omega) rfl | exact rd_ptf (i := n) (j := 4) (hsl31.mono hJ33) (by omega) rfl) (res_nil)) (fun w' hw => ?_)
        -- leaf 1
        exact ⟨rfl, (hw.less hJ22).below⟩
      · skip
        try simp at hc2
        have he : e22 = 0 := by omega
        obtain ⟨l22, hpp, hpl⟩ := hres22.t he
        have hcn := parts_cnt hpp
        have hwb := parts_bound5 hpp
        obtain ⟨E, hF, hEl⟩ := flat_of hpl
        obtain ⟨L22, hL22, hsl22, hWL⟩ := hpl.un
        have hln := pt_len hL22
        have hWE := flat_words hF
        refine t_skip ?_
        refine n_then ?_
        refine t_seq ?_
        refine t_region ?_
        refine l_q rfl rfl rfl (q_move rfl rfl) ?_
        refine l_e rfl rfl rfl (eff_call rfl rfl rfl Tryd.func10 (by kernel_rfl) rfl (fun w hw => flat_sub hF (by omega) _ _ _ w (Le.refl _) hw)) ?_
        rintro v31 J31 _ ⟨hJ31, rfl, hsl31⟩
        refine l_e rfl rfl rfl (e_alloc rfl ti23 rfl) ?_
        rintro _ _ _ ⟨b9, rfl, rfl, rfl⟩
        refine l_e0 rfl rfl (e_storeS rfl ti23 rfl rfl (by first | exact ⟨rfl, rfl⟩ | assumption | exact hsl31.one) rfl (by first | (simp only [List.set_cons_succ, List.set_cons_zero]; rfl) | rfl)) ?_
        rintro _ _ _ ⟨rfl, rfl⟩
        refine l_nil ?_
        refine n_then ?_
        refine t_seq ?_
        refine t_region ?_
        refine l_e rfl rfl rfl (e_alloc rfl ti3 rfl) ?_
        rintro _ _ _ ⟨b10, rfl, rfl, rfl⟩
        refine l_e0 rfl rfl (e_storeS rfl ti3 rfl rfl (by first | exact ⟨rfl, rfl⟩ | assumption | exact hsl31.one) rfl (by first | (simp only [List.set_cons_succ, List.set_cons_zero]; rfl) | rfl)) ?_
        rintro _ _ _ ⟨rfl, rfl⟩
        refine l_nil ?_
        refine n_then ?_
        refine t_seq ?_
        refine t_seq ?_
        refine t_region ?_
        refine l_q rfl rfl rfl (q_move rfl rfl) ?_
        refine l_e rfl rfl rfl (eff_call rfl rfl rfl Tryd.func11 (by kernel_rfl) rfl (fun w hw => walkf_calls vl22 hpl.one _ _ _ w hw)) ?_
        rintro _ J33 _ ⟨hJ33, rfl, c33, rfl, hc33⟩
        refine l_nil ?_
        refine n_then ?_
        refine t_block ?_
        refine t_range (γ := Nat × Bool) (walk_iter vl22 E J22 c33 hF (by omega)) rfl rfl Tryd.func18 (by kernel_rfl) rfl (fun nn zz => zz.1 = nn ∧ zz.2 = false) (fun cc zz => (cc = .ret ∧ zz.2 = true)) [] (fun zz TT => (row b10 3 [.int .i64 (zz.1 : Int)] :: row b9 23 [v31] :: row b6 4 [.bool zz.2] :: row b5 3 [.int .i64 stop] :: TT)) (fun _ _ => rfl) (fun zz => J33) [(0, _), (1, _), (2, _), (5, _), (6, _), (15, _), (18, _), (7, _), (8, _), (26, _), (9, _), (10, _), (33, _)] (sub_cons rfl (sub_cons rfl (sub_cons rfl (sub_cons rfl (sub_cons rfl (sub_cons rfl (sub_cons rfl (sub_cons rfl (sub_cons rfl (sub_cons rfl (sub_cons rfl (sub_cons rfl (sub_cons rfl sub_nil))))))))))))) (0, false) ?_ ?_ ?_ ?_ rfl ?_ ?_ ?_ ?_
        · exact ⟨rfl, rfl⟩
        · exact ⟨hc33, hJ31.trans hJ33⟩
        · exact Le.refl _
        · exact fun _ h => subC_st h
        · exact pC_one
        · intro bl ready busy done dfr nn vs gg w0r FF hi hinv hrs hbz
          obtain ⟨n, rb⟩ := gg
          obtain ⟨hn, hrb⟩ := hinv
          try dsimp only at *
          obtain ⟨hnl, rfl⟩ := pC_at hi
          subst hn
          subst hrb
          refine t_region ?_
          refine l_e rfl rfl rfl (e_alloc rfl ti32 rfl) ?_
          rintro _ _ _ ⟨b11, rfl, rfl, rfl⟩
          refine l_e0 rfl rfl ((by first | exact e_store_all rfl ti32 rfl rfl rfl (by first | exact chC_ones _ | exact pcC_ones _ | exact partC_ones (hWE _ (nth_mem (by omega))) | exact partC_ones (hWL _ (nth_mem (by omega))) | simp [Value.oneCell', str, u8]) rfl | exact e_store_agg rfl ti32 rfl rfl rfl (by first | exact chC_ones _ | exact pcC_ones _ | exact partC_ones (hWE _ (nth_mem (by omega))) | exact partC_ones (hWL _ (nth_mem (by omega))) | simp [Value.oneCell', str, u8]) rfl)) ?_
          rintro _ _ _ ⟨rfl, rfl⟩
          refine l_nil ?_
          refine n_begin (by rfl) hrs ?_
          refine t_block ?_
          refine t_seq ?_
          refine t_seq ?_
          refine t_qdraw mo (by kernel_rfl) (fun _ _ _ _ _ h => h) ?_
          refine s_q rfl rfl rfl ((by first | exact q_load_row rfl Tryd.underlying3 rfl rfl (by rfl) | exact q_load rfl Tryd.underlying3 rfl rfl (rd_ptf (i := n) (j := 0) (hsl31.mono hJ33) (by omega) rfl) | exact q_load rfl Tryd.underlying3 rfl rfl (rd_ptf (i := n) (j := 1) (hsl31.mono hJ33) (by omega) rfl) | exact q_load rfl Tryd.underlying3 rfl rfl (rd_ptf (i := n) (j := 2) (hsl31.mono hJ33) (by omega) rfl) | exact q_load rfl Tryd.underlying3 rfl rfl (rd_ptf (i := n) (j := 4) (hsl31.mono hJ33) (by omega) rfl))) ?_
          refine s_q rfl rfl rfl ((by first | exact q_load_row rfl Tryd.underlying23 rfl rfl (by rfl) | exact q_load rfl Tryd.underlying23 rfl rfl (rd_ptf (i := n) (j := 0) (hsl31.mono hJ33) (by omega) rfl) | exact q_load rfl Tryd.underlying23 rfl rfl (rd_ptf (i := n) (j := 1) (hsl31.mono hJ33) (by omega) rfl) | exact q_load rfl Tryd.underlying23 rfl rfl (rd_ptf (i := n) (j := 2) (hsl31.mono hJ33) (by omega) rfl) | exact q_load rfl Tryd.underlying23 rfl rfl (rd_ptf (i := n) (j := 4) (hsl31.mono hJ33) (by omega) rfl))) ?_
          refine s_q rfl rfl rfl ((by first | exact q_lenV rfl Tryd.underlying23 rfl | exact q_len rfl Tryd.underlying23 rfl (⟨_, _, rfl⟩) | exact q_len rfl Tryd.underlying23 rfl (Sl.lenOf (hsl31.mono hJ33) (List.length_map _)) | exact q_len rfl Tryd.underlying23 rfl (Sl.lenOf (hsl22.mono (hJ31.trans hJ33)) (List.length_map _)))) ?_
          refine s_q rfl rfl rfl (q_geq rfl rfl rfl) ?_
          refine s_q rfl rfl rfl (q_move rfl rfl) ?_
          refine s_or2 8 4 39 48 47 _ _ rfl rfl rfl rfl rfl rfl (fun h48 => by
              try simp at h48
              refine s_g rfl rfl rfl rfl rfl rfl (q_fieldAddr rfl Tryd.underlying32 rfl rfl ti3 rfl rfl) ?_
              refine s_g rfl rfl rfl rfl rfl rfl ((by first | exact q_load_row rfl Tryd.underlying3 rfl rfl (by rfl) | exact q_load rfl Tryd.underlying3 rfl rfl (rd_ptf (i := n) (j := 0) (hsl31.mono hJ33) (by omega) rfl) | exact q_load rfl Tryd.underlying3 rfl rfl (rd_ptf (i := n) (j := 1) (hsl31.mono hJ33) (by omega) rfl) | exact q_load rfl Tryd.underlying3 rfl rfl (rd_ptf (i := n) (j := 2) (hsl31.mono hJ33) (by omega) rfl) | exact q_load rfl Tryd.underlying3 rfl rfl (rd_ptf (i := n) (j := 4) (hsl31.mono hJ33) (by omega) rfl))) ?_
              refine s_g rfl rfl rfl rfl rfl rfl ((by first | exact q_load_row rfl Tryd.underlying23 rfl rfl (by rfl) | exact q_load rfl Tryd.underlying23 rfl rfl (rd_ptf (i := n) (j := 0) (hsl31.mono hJ33) (by omega) rfl) | exact q_load rfl Tryd.underlying23 rfl rfl (rd_ptf (i := n) (j := 1) (hsl31.mono hJ33) (by omega) rfl) | exact q_load rfl Tryd.underlying23 rfl rfl (rd_ptf (i := n) (j := 2) (hsl31.mono hJ33) (by omega) rfl) | exact q_load rfl Tryd.underlying23 rfl rfl (rd_ptf (i := n) (j := 4) (hsl31.mono hJ33) (by omega) rfl))) ?_
              refine s_g rfl rfl rfl rfl rfl rfl ((by first | exact q_load_row rfl Tryd.underlying3 rfl rfl (by rfl) | exact q_load rfl Tryd.underlying3 rfl rfl (rd_ptf (i := n) (j := 0) (hsl31.mono hJ33) (by omega) rfl) | exact q_load rfl Tryd.underlying3 rfl rfl (rd_ptf (i := n) (j := 1) (hsl31.mono hJ33) (by omega) rfl) | exact q_load rfl Tryd.underlying3 rfl rfl (rd_ptf (i := n) (j := 2) (hsl31.mono hJ33) (by omega) rfl) | exact q_load rfl Tryd.underlying3 rfl rfl (rd_ptf (i := n) (j := 4) (hsl31.mono hJ33) (by omega) rfl))) ?_
              refine s_g rfl rfl rfl rfl rfl rfl ((by first | exact q_indexAddrVN rfl Tryd.underlying23 ti32 rfl rfl (by omega) | exact q_indexAddrN rfl Tryd.underlying23 ti32 rfl rfl (Sl.shape (hsl31.mono hJ33) (List.length_map _)) (by omega) | exact q_indexAddrN rfl Tryd.underlying23 ti32 rfl rfl (Sl.shape (hsl22.mono (hJ31.trans hJ33)) (List.length_map _)) (by omega) | exact q_indexAddrV rfl Tryd.underlying23 ti32 rfl rfl (by omega) | exact q_indexAddr rfl Tryd.underlying23 ti32 rfl rfl (Sl.shape (hsl31.mono hJ33) (List.length_map _)) (by omega) | exact q_indexAddr rfl Tryd.underlying23 ti32 rfl rfl (Sl.shape (hsl22.mono (hJ31.trans hJ33)) (List.length_map _)) (by omega))) ?_
              refine s_g rfl rfl rfl rfl rfl rfl (q_fieldAddr rfl Tryd.underlying32 rfl rfl ti3 rfl rfl) ?_
              refine s_g rfl rfl rfl rfl rfl rfl ((by first | exact q_load_row rfl Tryd.underlying3 rfl rfl (by rfl) | exact q_load rfl Tryd.underlying3 rfl rfl (rd_ptf (i := n) (j := 0) (hsl31.mono hJ33) (by omega) rfl) | exact q_load rfl Tryd.underlying3 rfl rfl (rd_ptf (i := n) (j := 1) (hsl31.mono hJ33) (by omega) rfl) | exact q_load rfl Tryd.underlying3 rfl rfl (rd_ptf (i := n) (j := 2) (hsl31.mono hJ33) (by omega) rfl) | exact q_load rfl Tryd.underlying3 rfl rfl (rd_ptf (i := n) (j := 4) (hsl31.mono hJ33) (by omega) rfl))) ?_
              refine s_g rfl rfl rfl rfl rfl rfl (q_neq rfl rfl rfl) ?_
              exact s_val rfl
            ) (wanted_n rfl) rfl rfl rfl ?_
          refine s_q rfl rfl rfl (q_move rfl rfl) ?_
          refine s_or2 8 14 49 58 57 _ _ rfl rfl rfl rfl rfl rfl (fun h58 => by
              try simp at h58
              refine s_g rfl rfl rfl rfl rfl rfl (q_fieldAddr rfl Tryd.underlying32 rfl rfl ti9 rfl rfl) ?_
              refine s_g rfl rfl rfl rfl rfl rfl ((by first | exact q_load_row rfl Tryd.underlying9 rfl rfl (by rfl) | exact q_load rfl Tryd.underlying9 rfl rfl (rd_ptf (i := n) (j := 0) (hsl31.mono hJ33) (by omega) rfl) | exact q_load rfl Tryd.underlying9 rfl rfl (rd_ptf (i := n) (j := 1) (hsl31.mono hJ33) (by omega) rfl) | exact q_load rfl Tryd.underlying9 rfl rfl (rd_ptf (i := n) (j := 2) (hsl31.mono hJ33) (by omega) rfl) | exact q_load rfl Tryd.underlying9 rfl rfl (rd_ptf (i := n) (j := 4) (hsl31.mono hJ33) (by omega) rfl))) ?_
              refine s_g rfl rfl rfl rfl rfl rfl ((by first | exact q_load_row rfl Tryd.underlying23 rfl rfl (by rfl) | exact q_load rfl Tryd.underlying23 rfl rfl (rd_ptf (i := n) (j := 0) (hsl31.mono hJ33) (by omega) rfl) | exact q_load rfl Tryd.underlying23 rfl rfl (rd_ptf (i := n) (j := 1) (hsl31.mono hJ33) (by omega) rfl) | exact q_load rfl Tryd.underlying23 rfl rfl (rd_ptf (i := n) (j := 2) (hsl31.mono hJ33) (by omega) rfl) | exact q_load rfl Tryd.underlying23 rfl rfl (rd_ptf (i := n) (j := 4) (hsl31.mono hJ33) (by omega) rfl))) ?_
              refine s_g rfl rfl rfl rfl rfl rfl ((by first | exact q_load_row rfl Tryd.underlying3 rfl rfl (by rfl) | exact q_load rfl Tryd.underlying3 rfl rfl (rd_ptf (i := n) (j := 0) (hsl31.mono hJ33) (by omega) rfl) | exact q_load rfl Tryd.underlying3 rfl rfl (rd_ptf (i := n) (j := 1) (hsl31.mono hJ33) (by omega) rfl) | exact q_load rfl Tryd.underlying3 rfl rfl (rd_ptf (i := n) (j := 2) (hsl31.mono hJ33) (by omega) rfl) | exact q_load rfl Tryd.underlying3 rfl rfl (rd_ptf (i := n) (j := 4) (hsl31.mono hJ33) (by omega) rfl))) ?_
              refine s_g rfl rfl rfl rfl rfl rfl ((by first | exact q_indexAddrVN rfl Tryd.underlying23 ti32 rfl rfl (by omega) | exact q_indexAddrN rfl Tryd.underlying23 ti32 rfl rfl (Sl.shape (hsl31.mono hJ33) (List.length_map _)) (by omega) | exact q_indexAddrN rfl Tryd.underlying23 ti32 rfl rfl (Sl.shape (hsl22.mono (hJ31.trans hJ33)) (List.length_map _)) (by omega) | exact q_indexAddrV rfl Tryd.underlying23 ti32 rfl rfl (by omega) | exact q_indexAddr rfl Tryd.underlying23 ti32 rfl rfl (Sl.shape (hsl31.mono hJ33) (List.length_map _)) (by omega) | exact q_indexAddr rfl Tryd.underlying23 ti32 rfl rfl (Sl.shape (hsl22.mono (hJ31.trans hJ33)) (List.length_map _)) (by omega))) ?_
              refine s_g rfl rfl rfl rfl rfl rfl (q_fieldAddr rfl Tryd.underlying32 rfl rfl ti9 rfl rfl) ?_
              refine s_g rfl rfl rfl rfl rfl rfl ((by first | exact q_load_row rfl Tryd.underlying9 rfl rfl (by rfl) | exact q_load rfl Tryd.underlying9 rfl rfl (rd_ptf (i := n) (j := 0) (hsl31.mono hJ33) (by omega) rfl) | exact q_load rfl Tryd.underlying9 rfl rfl (rd_ptf (i := n) (j := 1) (hsl31.mono hJ33) (by omega) rfl) | exact q_load rfl Tryd.underlying9 rfl rfl (rd_ptf (i := n) (j := 2) (hsl31.mono hJ33) (by omega) rfl) | exact q_load rfl Tryd.underlying9 rfl rfl (rd_ptf (i := n) (j := 4) (hsl31.mono hJ33) (by omega) rfl))) ?_
              refine s_g rfl rfl rfl rfl rfl rfl (q_neq_str rfl rfl rfl) ?_
              exact s_val rfl
            ) (wanted_n rfl) rfl rfl rfl ?_
          refine s_q rfl rfl rfl (q_move rfl rfl) ?_
          refine s_or2 8 24 59 68 67 _ _ rfl rfl rfl rfl rfl rfl (fun h68 => by
              try simp at h68
              refine s_g rfl rfl rfl rfl rfl rfl (q_fieldAddr rfl Tryd.underlying32 rfl rfl ti9 rfl rfl) ?_
              refine s_g rfl rfl rfl rfl rfl rfl ((by first | exact q_load_row rfl Tryd.underlying9 rfl rfl (by rfl) | exact q_load rfl Tryd.underlying9 rfl rfl (rd_ptf (i := n) (j := 0) (hsl31.mono hJ33) (by omega) rfl) | exact q_load rfl Tryd.underlying9 rfl rfl (rd_ptf (i := n) (j := 1) (hsl31.mono hJ33) (by omega) rfl) | exact q_load rfl Tryd.underlying9 rfl rfl (rd_ptf (i := n) (j := 2) (hsl31.mono hJ33) (by omega) rfl) | exact q_load rfl Tryd.underlying9 rfl rfl (rd_ptf (i := n) (j := 4) (hsl31.mono hJ33) (by omega) rfl))) ?_
              refine s_g rfl rfl rfl rfl rfl rfl ((by first | exact q_load_row rfl Tryd.underlying23 rfl rfl (by rfl) | exact q_load rfl Tryd.underlying23 rfl rfl (rd_ptf (i := n) (j := 0) (hsl31.mono hJ33) (by omega) rfl) | exact q_load rfl Tryd.underlying23 rfl rfl (rd_ptf (i := n) (j := 1) (hsl31.mono hJ33) (by omega) rfl) | exact q_load rfl Tryd.underlying23 rfl rfl (rd_ptf (i := n) (j := 2) (hsl31.mono hJ33) (by omega) rfl) | exact q_load rfl Tryd.underlying23 rfl rfl (rd_ptf (i := n) (j := 4) (hsl31.mono hJ33) (by omega) rfl))) ?_
              refine s_g rfl rfl rfl rfl rfl rfl ((by first | exact q_load_row rfl Tryd.underlying3 rfl rfl (by rfl) | exact q_load rfl Tryd.underlying3 rfl rfl (rd_ptf (i := n) (j := 0) (hsl31.mono hJ33) (by omega) rfl) | exact q_load rfl Tryd.underlying3 rfl rfl (rd_ptf (i := n) (j := 1) (hsl31.mono hJ33) (by omega) rfl) | exact q_load rfl Tryd.underlying3 rfl rfl (rd_ptf (i := n) (j := 2) (hsl31.mono hJ33) (by omega) rfl) | exact q_load rfl Tryd.underlying3 rfl rfl (rd_ptf (i := n) (j := 4) (hsl31.mono hJ33) (by omega) rfl))) ?_
              refine s_g rfl rfl rfl rfl rfl rfl ((by first | exact q_indexAddrVN rfl Tryd.underlying23 ti32 rfl rfl (by omega) | exact q_indexAddrN rfl Tryd.underlying23 ti32 rfl rfl (Sl.shape (hsl31.mono hJ33) (List.length_map _)) (by omega) | exact q_indexAddrN rfl Tryd.underlying23 ti32 rfl rfl (Sl.shape (hsl22.mono (hJ31.trans hJ33)) (List.length_map _)) (by omega) | exact q_indexAddrV rfl Tryd.underlying23 ti32 rfl rfl (by omega) | exact q_indexAddr rfl Tryd.underlying23 ti32 rfl rfl (Sl.shape (hsl31.mono hJ33) (List.length_map _)) (by omega) | exact q_indexAddr rfl Tryd.underlying23 ti32 rfl rfl (Sl.shape (hsl22.mono (hJ31.trans hJ33)) (List.length_map _)) (by omega))) ?_
              refine s_g rfl rfl rfl rfl rfl rfl (q_fieldAddr rfl Tryd.underlying32 rfl rfl ti9 rfl rfl) ?_
              refine s_g rfl rfl rfl rfl rfl rfl ((by first | exact q_load_row rfl Tryd.underlying9 rfl rfl (by rfl) | exact q_load rfl Tryd.underlying9 rfl rfl (rd_ptf (i := n) (j := 0) (hsl31.mono hJ33) (by omega) rfl) | exact q_load rfl Tryd.underlying9 rfl rfl (rd_ptf (i := n) (j := 1) (hsl31.mono hJ33) (by omega) rfl) | exact q_load rfl Tryd.underlying9 rfl rfl (rd_ptf (i := n) (j := 2) (hsl31.mono hJ33) (by omega) rfl) | exact q_load rfl Tryd.underlying9 rfl rfl (rd_ptf (i := n) (j := 4) (hsl31.mono hJ33) (by omega) rfl))) ?_
              refine s_g rfl rfl rfl rfl rfl rfl (q_neq_str rfl rfl rfl) ?_
              exact s_val rfl
            ) (wanted_n rfl) rfl rfl rfl ?_
          refine s_q rfl rfl rfl (q_move rfl rfl) ?_
          refine s_or2 8 34 69 78 77 _ _ rfl rfl rfl rfl rfl rfl (fun h78 => by
              try simp at h78
              refine s_g rfl rfl rfl rfl rfl rfl (q_fieldAddr rfl Tryd.underlying32 rfl rfl ti4 rfl rfl) ?_
              refine s_g rfl rfl rfl rfl rfl rfl ((by first | exact q_load_row rfl Tryd.underlying4 rfl rfl (by rfl) | exact q_load rfl Tryd.underlying4 rfl rfl (rd_ptf (i := n) (j := 0) (hsl31.mono hJ33) (by omega) rfl) | exact q_load rfl Tryd.underlying4 rfl rfl (rd_ptf (i := n) (j := 1) (hsl31.mono hJ33) (by omega) rfl) | exact q_load rfl Tryd.underlying4 rfl rfl (rd_ptf (i := n) (j := 2) (hsl31.mono hJ33) (by omega) rfl) | exact q_load rfl Tryd.underlying4 rfl rfl (rd_ptf (i := n) (j := 4) (hsl31.mono hJ33) (by omega) rfl))) ?_
              refine s_g rfl rfl rfl rfl rfl rfl ((by first | exact q_load_row rfl Tryd.underlying23 rfl rfl (by rfl) | exact q_load rfl Tryd.underlying23 rfl rfl (rd_ptf (i := n) (j := 0) (hsl31.mono hJ33) (by omega) rfl) | exact q_load rfl Tryd.underlying23 rfl rfl (rd_ptf (i := n) (j := 1) (hsl31.mono hJ33) (by omega) rfl) | exact q_load rfl Tryd.underlying23 rfl rfl (rd_ptf (i := n) (j := 2) (hsl31.mono hJ33) (by omega) rfl) | exact q_load rfl Tryd.underlying23 rfl rfl (rd_ptf (i := n) (j := 4) (hsl31.mono hJ33) (by omega) rfl))) ?_
              refine s_g rfl rfl rfl rfl rfl rfl ((by first | exact q_load_row rfl Tryd.underlying3 rfl rfl (by rfl) | exact q_load rfl Tryd.underlying3 rfl rfl (rd_ptf (i := n) (j := 0) (hsl31.mono hJ33) (by omega) rfl) | exact q_load rfl Tryd.underlying3 rfl rfl (rd_ptf (i := n) (j := 1) (hsl31.mono hJ33) (by omega) rfl) | exact q_load rfl Tryd.underlying3 rfl rfl (rd_ptf (i := n) (j := 2) (hsl31.mono hJ33) (by omega) rfl) | exact q_load rfl Tryd.underlying3 rfl rfl (rd_ptf (i := n) (j := 4) (hsl31.mono hJ33) (by omega) rfl))) ?_
              refine s_g rfl rfl rfl rfl rfl rfl ((by first | exact q_indexAddrVN rfl Tryd.underlying23 ti32 rfl rfl (by omega) | exact q_indexAddrN rfl Tryd.underlying23 ti32 rfl rfl (Sl.shape (hsl31.mono hJ33) (List.length_map _)) (by omega) | exact q_indexAddrN rfl Tryd.underlying23 ti32 rfl rfl (Sl.shape (hsl22.mono (hJ31.trans hJ33)) (List.length_map _)) (by omega) | exact q_indexAddrV rfl Tryd.underlying23 ti32 rfl rfl (by omega) | exact q_indexAddr rfl Tryd.underlying23 ti32 rfl rfl (Sl.shape (hsl31.mono hJ33) (List.length_map _)) (by omega) | exact q_indexAddr rfl Tryd.underlying23 ti32 rfl rfl (Sl.shape (hsl22.mono (hJ31.trans hJ33)) (List.length_map _)) (by omega))) ?_
              refine s_g rfl rfl rfl rfl rfl rfl (q_fieldAddr rfl Tryd.underlying32 rfl rfl ti4 rfl rfl) ?_
              refine s_g rfl rfl rfl rfl rfl rfl ((by first | exact q_load_row rfl Tryd.underlying4 rfl rfl (by rfl) | exact q_load rfl Tryd.underlying4 rfl rfl (rd_ptf (i := n) (j := 0) (hsl31.mono hJ33) (by omega) rfl) | exact q_load rfl Tryd.underlying4 rfl rfl (rd_ptf (i := n) (j := 1) (hsl31.mono hJ33) (by omega) rfl) | exact q_load rfl Tryd.underlying4 rfl rfl (rd_ptf (i := n) (j := 2) (hsl31.mono hJ33) (by omega) rfl) | exact q_load rfl Tryd.underlying4 rfl rfl (rd_ptf (i := n) (j := 4) (hsl31.mono hJ33) (by omega) rfl))) ?_
              refine s_g rfl rfl rfl rfl rfl rfl (q_neq_bool rfl Tryd.underlying4 rfl rfl) ?_
              exact s_val rfl
            ) (wanted_n rfl) rfl rfl rfl ?_
          refine s_done ?_
          refine n_then ?_
          refine t_cond rfl (fun hc3 => ?_) (fun hc3 => ?_)
          · skip
            exfalso
            simp at hc3
            omega
          · skip
            refine t_skip ?_
            refine n_then ?_
            refine t_seq ?_
            refine t_region ?_
            refine l_q rfl rfl rfl ((by first | exact q_load_row rfl Tryd.underlying3 rfl rfl (by rfl) | exact q_load rfl Tryd.underlying3 rfl rfl (rd_ptf (i := n) (j := 0) (hsl31.mono hJ33) (by omega) rfl) | exact q_load rfl Tryd.underlying3 rfl rfl (rd_ptf (i := n) (j := 1) (hsl31.mono hJ33) (by omega) rfl) | exact q_load rfl Tryd.underlying3 rfl rfl (rd_ptf (i := n) (j := 2) (hsl31.mono hJ33) (by omega) rfl) | exact q_load rfl Tryd.underlying3 rfl rfl (rd_ptf (i := n) (j := 4) (hsl31.mono hJ33) (by omega) rfl))) ?_
            refine l_q rfl rfl rfl (q_add64 rfl rfl rfl (by omega)) ?_
            refine l_e0 rfl rfl (e_storeS rfl ti3 rfl rfl (by first | exact ⟨rfl, rfl⟩ | assumption | exact hsl31.one) rfl (by first | (simp only [List.set_cons_succ, List.set_cons_zero]; rfl) | rfl)) ?_
            rintro _ _ _ ⟨rfl, rfl⟩
            refine l_heap (H' := row b10 3 [.int .i64 ((n + 1 : Nat) : Int)] :: _) ?_ (fun _ h => h)
            refine l_nil ?_
            refine n_then ?_
            refine t_seq ?_
            refine t_region ?_
            refine l_q rfl rfl rfl ((by first | exact q_load_row rfl Tryd.underlying3 rfl rfl (by rfl) | exact q_load rfl Tryd.underlying3 rfl rfl (rd_ptf (i := n) (j := 0) (hsl31.mono hJ33) (by omega) rfl) | exact q_load rfl Tryd.underlying3 rfl rfl (rd_ptf (i := n) (j := 1) (hsl31.mono hJ33) (by omega) rfl) | exact q_load rfl Tryd.underlying3 rfl rfl (rd_ptf (i := n) (j := 2) (hsl31.mono hJ33) (by omega) rfl) | exact q_load rfl Tryd.underlying3 rfl rfl (rd_ptf (i := n) (j := 4) (hsl31.mono hJ33) (by omega) rfl))) ?_
            refine l_q rfl rfl rfl ((by first | exact q_load_row rfl Tryd.underlying3 rfl rfl (by rfl) | exact q_load rfl Tryd.underlying3 rfl rfl (rd_ptf (i := n) (j := 0) (hsl31.mono hJ33) (by omega) rfl) | exact q_load rfl Tryd.underlying3 rfl rfl (rd_ptf (i := n) (j := 1) (hsl31.mono hJ33) (by omega) rfl) | exact q_load rfl Tryd.underlying3 rfl rfl (rd_ptf (i := n) (j := 2) (hsl31.mono hJ33) (by omega) rfl) | exact q_load rfl Tryd.underlying3 rfl rfl (rd_ptf (i := n) (j := 4) (hsl31.mono hJ33) (by omega) rfl))) ?_
            refine l_q rfl rfl rfl (q_eql rfl rfl rfl) ?_
            refine l_nil ?_
            refine n_then ?_
            refine t_cond rfl (fun hc4 => ?_) (fun hc4 => ?_)
            · skip
              try simp at hc4
              refine t_seq ?_
              refine t_region ?_
              refine l_e0 rfl rfl (e_storeS rfl ti4 rfl rfl (by first | exact ⟨rfl, rfl⟩ | assumption | exact hsl31.one) rfl (by first | (simp only [List.set_cons_succ, List.set_cons_zero]; rfl) | rfl)) ?_
              rintro _ _ _ ⟨rfl, rfl⟩
              refine l_nil ?_
              refine n_then ?_
              refine t_ret ?_
              refine n_ret_block ?_
              refine n_rret (fun w' hw' => .inr ⟨rfl, .ret, ((n + 1, true)), ?_, ?_, ?_⟩)
              · try dsimp only
                exact ⟨rfl, rfl⟩
              · exact Le.refl _
              · try dsimp only
                exact subC_st hw'
            · skip
              try simp at hc4
              refine t_skip ?_
              refine n_block ?_
              refine n_rnext (fun w' hw' => .inl ⟨rfl, ((n + 1, false)), ?_, ?_, ?_⟩)
              · try dsimp only
                exact ⟨rfl, rfl⟩
              · exact Le.refl _
              · try dsimp only
                exact subC_st hw'
        · skip
          intro bd gg hinv hle
          obtain ⟨n, rb⟩ := gg
          obtain ⟨hn, hrb⟩ := hinv
          try dsimp only at *
          rw [List.length_map] at hn
          subst hrb
          refine n_block ?_
          refine n_then ?_
          refine t_seq ?_
          refine t_seq ?_
          refine t_region ?_
          refine l_q rfl rfl rfl (q_move rfl rfl) ?_
          refine l_q rfl rfl rfl ((by first | exact q_lenV rfl Tryd.underlying23 rfl | exact q_len rfl Tryd.underlying23 rfl (⟨_, _, rfl⟩) | exact q_len rfl Tryd.underlying23 rfl (Sl.lenOf (hsl31.mono hJ33) (List.length_map _)) | exact q_len rfl Tryd.underlying23 rfl (Sl.lenOf (hsl22.mono (hJ31.trans hJ33)) (List.length_map _)))) ?_
          refine l_q rfl rfl rfl (q_move rfl rfl) ?_
          refine l_nil ?_
          refine n_then ?_
          refine t_block ?_
          refine t_loopE (ι := Nat) (fun zz => zz ≤ L22.length) (fun zz => L22.length - zz) (fun zz => [(86, .int .i64 (zz : Int))]) [(0, _), (1, _), (2, _), (5, _), (6, _), (15, _), (18, _), (7, _), (8, _), (26, _), (9, _), (10, _), (33, _), (84, _), (85, _)] (fun zz => J33) (fun zz => (row b10 3 [.int .i64 (n : Int)] :: row b9 23 [v31] :: row b6 4 [.bool false] :: row b5 3 [.int .i64 stop] :: obj bd (.deferred (some [])) :: [])) 0 ?_ (sub_cons rfl sub_nil) (sub_cons rfl (sub_cons rfl (sub_cons rfl (sub_cons rfl (sub_cons rfl (sub_cons rfl (sub_cons rfl (sub_cons rfl (sub_cons rfl (sub_cons rfl (sub_cons rfl (sub_cons rfl (sub_cons rfl (sub_cons rfl (sub_cons rfl sub_nil))))))))))))))) (fun _ h => subC_st h) ?_
          · try dsimp only
            exact Nat.zero_le _
          rintro i hi
          try dsimp only at *
          refine t_seq ?_
          refine t_region ?_
          refine l_q rfl rfl rfl (q_lss rfl rfl rfl) ?_
          refine l_nil ?_
          refine n_then ?_
          refine t_seq ?_
          refine t_cond rfl (fun hc5 => ?_) (fun hc5 => ?_)
          · skip
            try simp at hc5
            refine t_skip ?_
            refine n_then ?_
            refine t_seq ?_
            refine t_block ?_
            refine t_seq ?_
            refine t_region ?_
            refine l_q rfl rfl rfl ((by first | exact q_indexAddrVN rfl Tryd.underlying23 ti32 rfl rfl (by omega) | exact q_indexAddrN rfl Tryd.underlying23 ti32 rfl rfl (Sl.shape (hsl31.mono hJ33) (List.length_map _)) (by omega) | exact q_indexAddrN rfl Tryd.underlying23 ti32 rfl rfl (Sl.shape (hsl22.mono (hJ31.trans hJ33)) (List.length_map _)) (by omega) | exact q_indexAddrV rfl Tryd.underlying23 ti32 rfl rfl (by omega) | exact q_indexAddr rfl Tryd.underlying23 ti32 rfl rfl (Sl.shape (hsl31.mono hJ33) (List.length_map _)) (by omega) | exact q_indexAddr rfl Tryd.underlying23 ti32 rfl rfl (Sl.shape (hsl22.mono (hJ31.trans hJ33)) (List.length_map _)) (by omega))) ?_
            refine l_q rfl rfl rfl ((by first | exact q_load_rowA rfl Tryd.underlying32 ti32 rfl rfl rfl | exact q_load_agg rfl Tryd.underlying32 ti32 rfl rfl (rds_pt (i := i) (hsl22.mono (hJ31.trans hJ33)) (by omega)))) ?_
            refine l_e rfl rfl rfl (e_alloc rfl ti32 rfl) ?_
            rintro _ _ _ ⟨b13, rfl, rfl, rfl⟩
            refine l_e0 rfl rfl ((by first | exact e_store_all rfl ti32 rfl rfl rfl (by first | exact chC_ones _ | exact pcC_ones _ | exact partC_ones (hWE _ (nth_mem (by omega))) | exact partC_ones (hWL _ (nth_mem (by omega))) | simp [Value.oneCell', str, u8]) rfl | exact e_store_agg rfl ti32 rfl rfl rfl (by first | exact chC_ones _ | exact pcC_ones _ | exact partC_ones (hWE _ (nth_mem (by omega))) | exact partC_ones (hWL _ (nth_mem (by omega))) | simp [Value.oneCell', str, u8]) rfl)) ?_
            rintro _ _ _ ⟨rfl, rfl⟩
            refine l_nil ?_
            refine n_then ?_
            refine t_seq ?_
            refine t_qreg ?_
            refine s_q rfl rfl rfl (q_move rfl rfl) ?_
            refine s_q rfl rfl rfl (q_neq rfl rfl rfl) ?_
            refine s_q rfl rfl rfl (q_move rfl rfl) ?_
            refine s_and2 3 2 92 96 95 _ _ rfl rfl rfl rfl rfl rfl (fun h96 => by
                try simp at h96
                refine s_g rfl rfl rfl rfl rfl rfl (q_fieldAddr rfl Tryd.underlying32 rfl rfl ti4 rfl rfl) ?_
                refine s_g rfl rfl rfl rfl rfl rfl ((by first | exact q_load_row rfl Tryd.underlying4 rfl rfl (by rfl) | exact q_load rfl Tryd.underlying4 rfl rfl (rd_ptf (i := n) (j := 0) (hsl31.mono hJ33) (by omega) rfl) | exact q_load rfl Tryd.underlying4 rfl rfl (rd_ptf (i := n) (j := 1) (hsl31.mono hJ33) (by omega) rfl) | exact q_load rfl Tryd.underlying4 rfl rfl (rd_ptf (i := n) (j := 2) (hsl31.mono hJ33) (by omega) rfl) | exact q_load rfl Tryd.underlying4 rfl rfl (rd_ptf (i := n) (j := 4) (hsl31.mono hJ33) (by omega) rfl))) ?_
                refine s_g rfl rfl rfl rfl rfl rfl (q_not rfl rfl) ?_
                exact s_val rfl
              ) (wanted_n rfl) rfl rfl rfl ?_
            refine s_done ?_
            refine n_then ?_
            refine t_cond rfl (fun hc6 => ?_) (fun hc6 => ?_)
            · skip
              exfalso
              have h6 := hc6
              rw [Bool.and_eq_true, decide_eq_true_eq] at h6
              have hq := (pt_nth hL22 (i := i) (by omega)).2.2.2.1
              have hq2 := parts_q h6.1 hpp (nth l22 i pt0) (nth_mem (by omega))
              rw [hq, hq2] at h6
              exact absurd h6.2 (by simp)
            · skip
              refine t_skip ?_
              refine n_block ?_
              refine n_then ?_
              refine t_region ?_
              refine l_q rfl rfl rfl (q_add64 rfl rfl rfl (by omega)) ?_
              refine l_q rfl rfl rfl (q_move rfl rfl) ?_
              refine l_nil ?_
              refine n_roundE (i + 1) ?_ ?_ (sub_cons rfl sub_nil) (sub_cons rfl (sub_cons rfl (sub_cons rfl (sub_cons rfl (sub_cons rfl (sub_cons rfl (sub_cons rfl (sub_cons rfl (sub_cons rfl (sub_cons rfl (sub_cons rfl (sub_cons rfl (sub_cons rfl (sub_cons rfl (sub_cons rfl sub_nil))))))))))))))) (fun _ h => by try dsimp only; exact subC_st h)
              · try dsimp only
                omega
              · try dsimp only
                omega
          · skip
            try simp at hc5
            refine t_exit ?_
            refine n_exit_then ?_
            refine n_exit_then ?_
            refine n_exit_block ?_
            refine n_then ?_
            refine t_seq ?_
            refine t_region ?_
            refine l_q rfl rfl rfl ((by first | exact q_load_row rfl Tryd.underlying3 rfl rfl (by rfl) | exact q_load rfl Tryd.underlying3 rfl rfl (rd_ptf (i := n) (j := 0) (hsl31.mono hJ33) (by omega) rfl) | exact q_load rfl Tryd.underlying3 rfl rfl (rd_ptf (i := n) (j := 1) (hsl31.mono hJ33) (by omega) rfl) | exact q_load rfl Tryd.underlying3 rfl rfl (rd_ptf (i := n) (j := 2) (hsl31.mono hJ33) (by omega) rfl) | exact q_load rfl Tryd.underlying3 rfl rfl (rd_ptf (i := n) (j := 4) (hsl31.mono hJ33) (by omega) rfl))) ?_
            refine l_q rfl rfl rfl ((by first | exact q_load_row rfl Tryd.underlying23 rfl rfl (by rfl) | exact q_load rfl Tryd.underlying23 rfl rfl (rd_ptf (i := n) (j := 0) (hsl31.mono hJ33) (by omega) rfl) | exact q_load rfl Tryd.underlying23 rfl rfl (rd_ptf (i := n) (j := 1) (hsl31.mono hJ33) (by omega) rfl) | exact q_load rfl Tryd.underlying23 rfl rfl (rd_ptf (i := n) (j := 2) (hsl31.mono hJ33) (by omega) rfl) | exact q_load rfl Tryd.underlying23 rfl rfl (rd_ptf (i := n) (j := 4) (hsl31.mono hJ33) (by omega) rfl))) ?_
            refine l_q rfl rfl rfl ((by first | exact q_lenV rfl Tryd.underlying23 rfl | exact q_len rfl Tryd.underlying23 rfl (⟨_, _, rfl⟩) | exact q_len rfl Tryd.underlying23 rfl (Sl.lenOf (hsl31.mono hJ33) (List.length_map _)) | exact q_len rfl Tryd.underlying23 rfl (Sl.lenOf (hsl22.mono (hJ31.trans hJ33)) (List.length_map _)))) ?_
            refine l_q rfl rfl rfl (q_eql rfl rfl rfl) ?_
            refine l_e0 rfl rfl (e_storeS rfl ti4 rfl rfl (by first | exact ⟨rfl, rfl⟩ | assumption | exact hsl31.one) rfl (by first | (simp only [List.set_cons_succ, List.set_cons_zero]; rfl) | rfl)) ?_
            rintro _ _ _ ⟨rfl, rfl⟩
            refine l_nil ?_
            refine n_then ?_
            refine t_ret ?_
            refine n_np_ret ?_
            refine n_retGM (bs := [bd]) (.inl rfl) rfl (by exact res_cell rfl Tryd.underlying4 rfl (by first | exact rd_rowI rfl | exact rd_ptf (i := n) (j := 0) (hsl31.mono hJ33) (by omega) rfl | exact rd_ptf (i := n) (j := 1) (hsl31.mono hJ33) (by omega) rfl | exact rd_ptf (i := n) (j := 2) (hsl31.mono hJ33) (by omega) rfl | exact rd_ptf (i := n) (j := 4) (hsl31.mono hJ33) (by omega) rfl) (res_nil)) (fun w' hw => ?_)
            -- leaf 2
            refine ⟨?_, (hw.less ((hJ22.trans hJ31).trans hJ33)).below⟩
            rw [hn]
            simp
            rfl
        · skip
          intro bd cc gg hex hle
          obtain ⟨n, rb⟩ := gg
          obtain ⟨rfl, hrb⟩ := hex
          try dsimp only at *
          refine t_ret ?_
          refine n_ret_block ?_
          refine n_ret_then ?_
          refine n_np_ret ?_
          refine n_retGM (bs := [bd]) (.inl rfl) rfl (by exact res_cell rfl Tryd.underlying4 rfl (by first | exact rd_rowI rfl | exact rd_ptf (i := n) (j := 0) (hsl31.mono hJ33) (by omega) rfl | exact rd_ptf (i := n) (j := 1) (hsl31.mono hJ33) (by omega) rfl | exact rd_ptf (i := n) (j := 2) (hsl31.mono hJ33) (by omega) rfl | exact rd_ptf (i := n) (j := 4) (hsl31.mono hJ33) (by omega) rfl) (res_nil)) (fun w' hw => ?_)
          -- leaf 3
          refine ⟨?_, (hw.less ((hJ22.trans hJ31).trans hJ33)).below⟩
          rw [hrb]
          rfl
end Go.Tri
