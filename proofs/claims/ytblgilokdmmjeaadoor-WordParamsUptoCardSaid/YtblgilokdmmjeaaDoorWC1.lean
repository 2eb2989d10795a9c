/-
  The statements: awake.
-/
import Derived.Test.YtblgilokdmmjeaaDoorWB8
import Derived.Test.YtblgilokdmmjeaaDoorPWord7
namespace Go.Tri
open Go.Proofs Go.RowKit
theorem pt_nth {L : List PE} {l : List PT} (h : l = L.map PE.pt) {i : Nat} (hi : i < L.length) : (nth L i pe0).kind = (nth l i pt0).kind ∧ (nth L i pe0).text = (nth l i pt0).text ∧ (nth L i pe0).op = (nth l i pt0).op ∧ (nth L i pe0).q = (nth l i pt0).q ∧ (nth L i pe0).word = (nth l i pt0).word := by
  have h1 : nth l i pt0 = (nth L i pe0).pt := by rw [h]; exact nth_pt hi
  rw [h1]
  exact ⟨rfl, rfl, rfl, rfl, rfl⟩
theorem pt_len {L : List PE} {l : List PT} (h : l = L.map PE.pt) : L.length = l.length := by rw [h, List.length_map]
theorem pt_sum {L : List PE} {l : List PT} (h : l = L.map PE.pt) : sumT L = sumP l := by rw [h, sumP_pt]
set_option maxRecDepth 10000 in
theorem awake_pure (w : World) (hG : EnvI (look w)) : Pure Tryd.prog 8 [] w (.bool true) := by
  refine enter Tryd.func8 rfl Tryd.ntmps8 rfl (St.start w (look w) (Le.refl _)) ?_
  refine t_seq ?_
  refine t_region ?_
  refine l_q rfl rfl rfl (q_assign rfl rfl) ?_
  refine l_nil ?_
  refine n_then ?_
  refine t_seq ?_
  refine t_region ?_
  refine l_e rfl rfl rfl (eff_call rfl rfl rfl Tryd.func9 (by kernel_rfl) rfl (fun w hw => parts_calls (awS5) (0) _ _ _ w (by decide) (hG) hw)) ?_
  rintro _ J4 _ ⟨hJ4, rfl, vl4, e4, rfl, hres4⟩
  rw [awake_parts] at hres4
  obtain ⟨he4, hpl4⟩ := hres4
  subst he4
  obtain ⟨L4, hL4, hsl4, hWL4⟩ := hpl4.un
  have hln4 := pt_len hL4
  have hsm4 := pt_sum hL4
  have hl3 : L4.length = 3 := hln4
  have p1 := pt_nth hL4 (i := 1) (by omega)
  have p2 := pt_nth hL4 (i := 2) (by omega)
  refine l_q rfl rfl rfl (q_move rfl rfl) ?_
  refine l_q rfl rfl rfl (q_extract rfl rfl rfl) ?_
  refine l_q rfl rfl rfl (q_extract rfl rfl rfl) ?_
  refine l_q rfl rfl rfl (q_assign rfl rfl) ?_
  refine l_q rfl rfl rfl (q_assign rfl rfl) ?_
  refine l_nil ?_
  refine n_then ?_
  refine t_seq ?_
  refine t_qreg ?_
  refine s_q rfl rfl rfl (q_move rfl rfl) ?_
  refine s_q rfl rfl rfl (q_eql rfl rfl rfl) ?_
  refine s_q rfl rfl rfl (q_move rfl rfl) ?_
  refine s_and2 3 2 9 13 12 _ _ rfl rfl rfl rfl rfl rfl (fun h13 => by
      try simp at h13
      refine s_g rfl rfl rfl rfl rfl rfl (q_move rfl rfl) ?_
      refine s_g rfl rfl rfl rfl rfl rfl ((by first | exact q_lenV rfl Tryd.underlying23 rfl | exact q_len rfl Tryd.underlying23 rfl (Sl.lenOf hsl4 (List.length_map _)))) ?_
      refine s_g rfl rfl rfl rfl rfl rfl (q_eql rfl rfl rfl) ?_
      exact s_val rfl
    ) (wanted_n rfl) rfl rfl rfl ?_
  refine s_q rfl rfl rfl (q_move rfl rfl) ?_
  refine s_and2 4 7 14 19 18 _ _ rfl rfl rfl rfl rfl rfl (fun h19 => by
      try simp at h19
      refine s_g rfl rfl rfl rfl rfl rfl (q_move rfl rfl) ?_
      refine s_g rfl rfl rfl rfl rfl rfl ((by first | exact q_indexAddrVN rfl Tryd.underlying23 ti32 rfl rfl (by omega) | exact q_indexAddrN rfl Tryd.underlying23 ti32 rfl rfl (Sl.shape hsl4 (List.length_map _)) (by omega) | exact q_indexAddrV rfl Tryd.underlying23 ti32 rfl rfl (by omega) | exact q_indexAddr rfl Tryd.underlying23 ti32 rfl rfl (Sl.shape hsl4 (List.length_map _)) (by omega))) ?_
      refine s_g rfl rfl rfl rfl rfl rfl (q_fieldAddr rfl Tryd.underlying32 rfl rfl ti4 rfl rfl) ?_
      refine s_g rfl rfl rfl rfl rfl rfl ((by first | exact q_load_row rfl Tryd.underlying4 rfl rfl (by rfl) | exact q_load rfl Tryd.underlying4 rfl rfl (rd_ptf (i := 1) (j := 4) hsl4 (by omega) rfl) | exact q_load rfl Tryd.underlying4 rfl rfl (rd_ptf (i := 2) (j := 0) hsl4 (by omega) rfl) | exact q_load rfl Tryd.underlying4 rfl rfl (rd_ptf (i := 2) (j := 1) hsl4 (by omega) rfl))) ?_
      exact s_val rfl
    ) (wanted_n rfl) rfl rfl rfl ?_
  refine s_q rfl rfl rfl (q_move rfl rfl) ?_
  refine s_and2 5 13 20 26 25 _ _ rfl rfl rfl rfl rfl rfl (fun h26 => by
      try simp at h26
      refine s_g rfl rfl rfl rfl rfl rfl (q_move rfl rfl) ?_
      refine s_g rfl rfl rfl rfl rfl rfl ((by first | exact q_indexAddrVN rfl Tryd.underlying23 ti32 rfl rfl (by omega) | exact q_indexAddrN rfl Tryd.underlying23 ti32 rfl rfl (Sl.shape hsl4 (List.length_map _)) (by omega) | exact q_indexAddrV rfl Tryd.underlying23 ti32 rfl rfl (by omega) | exact q_indexAddr rfl Tryd.underlying23 ti32 rfl rfl (Sl.shape hsl4 (List.length_map _)) (by omega))) ?_
      refine s_g rfl rfl rfl rfl rfl rfl (q_fieldAddr rfl Tryd.underlying32 rfl rfl ti3 rfl rfl) ?_
      refine s_g rfl rfl rfl rfl rfl rfl ((by first | exact q_load_row rfl Tryd.underlying3 rfl rfl (by rfl) | exact q_load rfl Tryd.underlying3 rfl rfl (rd_ptf (i := 1) (j := 4) hsl4 (by omega) rfl) | exact q_load rfl Tryd.underlying3 rfl rfl (rd_ptf (i := 2) (j := 0) hsl4 (by omega) rfl) | exact q_load rfl Tryd.underlying3 rfl rfl (rd_ptf (i := 2) (j := 1) hsl4 (by omega) rfl))) ?_
      refine s_g rfl rfl rfl rfl rfl rfl (q_eql rfl rfl rfl) ?_
      exact s_val rfl
    ) (wanted_n rfl) rfl rfl rfl ?_
  refine s_q rfl rfl rfl (q_move rfl rfl) ?_
  refine s_and2 5 20 27 33 32 _ _ rfl rfl rfl rfl rfl rfl (fun h33 => by
      try simp at h33
      refine s_g rfl rfl rfl rfl rfl rfl (q_move rfl rfl) ?_
      refine s_g rfl rfl rfl rfl rfl rfl ((by first | exact q_indexAddrVN rfl Tryd.underlying23 ti32 rfl rfl (by omega) | exact q_indexAddrN rfl Tryd.underlying23 ti32 rfl rfl (Sl.shape hsl4 (List.length_map _)) (by omega) | exact q_indexAddrV rfl Tryd.underlying23 ti32 rfl rfl (by omega) | exact q_indexAddr rfl Tryd.underlying23 ti32 rfl rfl (Sl.shape hsl4 (List.length_map _)) (by omega))) ?_
      refine s_g rfl rfl rfl rfl rfl rfl (q_fieldAddr rfl Tryd.underlying32 rfl rfl ti9 rfl rfl) ?_
      refine s_g rfl rfl rfl rfl rfl rfl ((by first | exact q_load_row rfl Tryd.underlying9 rfl rfl (by rfl) | exact q_load rfl Tryd.underlying9 rfl rfl (rd_ptf (i := 1) (j := 4) hsl4 (by omega) rfl) | exact q_load rfl Tryd.underlying9 rfl rfl (rd_ptf (i := 2) (j := 0) hsl4 (by omega) rfl) | exact q_load rfl Tryd.underlying9 rfl rfl (rd_ptf (i := 2) (j := 1) hsl4 (by omega) rfl))) ?_
      refine s_g rfl rfl rfl rfl rfl rfl (q_eql_str rfl rfl rfl) ?_
      exact s_val rfl
    ) (wanted_n rfl) rfl rfl rfl ?_
  refine s_q rfl rfl rfl (q_move rfl rfl) ?_
  refine s_q rfl rfl rfl (q_pick_b rfl rfl) ?_
  refine s_q rfl rfl rfl (q_assign rfl rfl) ?_
  refine s_done ?_
  refine n_then ?_
  refine t_ret ?_
  refine n_ret1 rfl rfl (fun w' hw => ?_)
  -- leaf 0
  refine ⟨?_, (hw.less hJ4).below⟩
  refine congrArg (fun b => Ending.returned (Value.bool b)) (?_ : _ = true)
  rw [hl3, p1.2.2.2.1, p2.1, p2.2.1]
  rfl
end Go.Tri
