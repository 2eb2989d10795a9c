/-
  The statement: WordQuotes.
-/
import Derived.Test.YtblgilokdmmjeaaDoorWC1
namespace Go.Tri
open Go.Proofs Go.RowKit
set_option maxRecDepth 10000 in
theorem wordQuotes_pure (s : List UInt8) (w : World) (hs : s.length ≤ 1048576) (hG : EnvI (look w)) : Pure Tryd.prog 6 [str s] w (.bool true) := by
  refine enter Tryd.func6 rfl Tryd.ntmps6 rfl (St.start w (look w) (Le.refl _)) ?_
  refine t_seq ?_
  refine t_region ?_
  refine l_q rfl rfl rfl (q_assign rfl rfl) ?_
  refine l_nil ?_
  refine n_then ?_
  refine t_seq ?_
  refine t_seq ?_
  refine t_region ?_
  refine l_q rfl rfl rfl (quiet_call rfl rfl rfl Tryd.func8 (by kernel_rfl) rfl ((fun w hw => awake_pure w (hG.mono hw.le)))) ?_
  refine l_q rfl rfl rfl (q_not rfl rfl) ?_
  refine l_nil ?_
  refine n_then ?_
  refine t_cond rfl (fun hc0 => ?_) (fun hc0 => ?_)
  · skip
    try simp at hc0
  · skip
    try simp at hc0
    refine t_skip ?_
    refine n_then ?_
    refine t_seq ?_
    refine t_seq ?_
    refine t_region ?_
    refine l_q rfl rfl rfl (q_move rfl rfl) ?_
    refine l_q rfl rfl rfl (q_len_str rfl Tryd.underlying9 rfl) ?_
    refine l_q rfl rfl rfl (q_gtr rfl rfl rfl) ?_
    refine l_nil ?_
    refine n_then ?_
    refine t_cond rfl (fun hc1 => ?_) (fun hc1 => ?_)
    · skip
      try simp at hc1
      refine t_seq ?_
      refine t_region ?_
      refine l_q rfl rfl rfl (q_assign rfl rfl) ?_
      refine l_nil ?_
      refine n_then ?_
      refine t_ret ?_
      refine n_ret_then ?_
      refine n_ret1 rfl rfl (fun w' hw => ?_)
      -- leaf 0
      exact ⟨rfl, hw.below⟩
    · skip
      try simp at hc1
      have hs3 : s.length ≤ 3000 := by omega
      refine t_skip ?_
      refine n_then ?_
      refine t_seq ?_
      refine t_region ?_
      refine l_q rfl rfl rfl (q_move rfl rfl) ?_
      refine l_q rfl rfl rfl (quiet_call rfl rfl rfl Tryd.func15 (by kernel_rfl) rfl ((fun w hw => quote_pure s w (by omega) (hG.mono hw.le)))) ?_
      refine l_e rfl rfl rfl (eff_call rfl rfl rfl Tryd.func9 (by kernel_rfl) rfl (fun w hw => parts_calls (quoteB s) (0) _ _ _ w (by have := quoteB_le s; omega) (hG) hw)) ?_
      rintro _ J15 _ ⟨hJ15, rfl, vl15, e15, rfl, hres15⟩
      obtain ⟨q, hq⟩ := parts_quote (s := s) (by omega)
      rw [hq] at hres15
      obtain ⟨he15, hpl15⟩ := hres15
      subst he15
      obtain ⟨L15, hL15, hsl15, hWL15⟩ := hpl15.un
      have hln15 := pt_len hL15
      have hsm15 := pt_sum hL15
      have hl1 : L15.length = 1 := hln15
      have hs1 : sumT L15 = s.length := hsm15.trans (by simp [sumP, PT.text])
      have hst : statP (L15.map PE.pt) = some s := by rw [← hL15]; exact stat_one s q
      refine l_q rfl rfl rfl (q_move rfl rfl) ?_
      refine l_q rfl rfl rfl (q_extract rfl rfl rfl) ?_
      refine l_q rfl rfl rfl (q_extract rfl rfl rfl) ?_
      refine l_q rfl rfl rfl (q_assign rfl rfl) ?_
      refine l_q rfl rfl rfl (q_assign rfl rfl) ?_
      refine l_nil ?_
      refine n_then ?_
      refine t_seq ?_
      refine t_region ?_
      refine l_q rfl rfl rfl (q_move rfl rfl) ?_
      refine l_q rfl rfl rfl (quiet_call rfl rfl rfl Tryd.func14 (by kernel_rfl) rfl ((fun w hw => static_pure _ L15 w (by omega) (by omega) (hsl15.mono hw.le) (WordsR.mono hWL15 hw.le)))) ?_
      rw [hst]
      refine l_q rfl rfl rfl (q_move rfl rfl) ?_
      refine l_q rfl rfl rfl (q_extract rfl rfl rfl) ?_
      refine l_q rfl rfl rfl (q_extract rfl rfl rfl) ?_
      refine l_q rfl rfl rfl (q_assign rfl rfl) ?_
      refine l_q rfl rfl rfl (q_assign rfl rfl) ?_
      refine l_nil ?_
      refine n_then ?_
      refine t_seq ?_
      refine t_qreg ?_
      refine s_q rfl rfl rfl (q_move rfl rfl) ?_
      refine s_q rfl rfl rfl (q_eql rfl rfl rfl) ?_
      refine s_q rfl rfl rfl (q_move rfl rfl) ?_
      refine s_and2 1 2 25 27 26 _ _ rfl rfl rfl rfl rfl rfl (fun h27 => by
          try simp at h27
          refine s_g rfl rfl rfl rfl rfl rfl (q_move rfl rfl) ?_
          exact s_val rfl
        ) (wanted_n rfl) rfl rfl rfl ?_
      refine s_q rfl rfl rfl (q_move rfl rfl) ?_
      refine s_and2 3 5 28 32 31 _ _ rfl rfl rfl rfl rfl rfl (fun h32 => by
          try simp at h32
          refine s_g rfl rfl rfl rfl rfl rfl (q_move rfl rfl) ?_
          refine s_g rfl rfl rfl rfl rfl rfl (q_move rfl rfl) ?_
          refine s_g rfl rfl rfl rfl rfl rfl (q_eql_str rfl rfl rfl) ?_
          exact s_val rfl
        ) (wanted_n rfl) rfl rfl rfl ?_
      refine s_q rfl rfl rfl (q_move rfl rfl) ?_
      refine s_and2 3 10 33 37 36 _ _ rfl rfl rfl rfl rfl rfl (fun h37 => by
          try simp at h37
          refine s_g rfl rfl rfl rfl rfl rfl (q_move rfl rfl) ?_
          refine s_g rfl rfl rfl rfl rfl rfl ((by first | exact q_lenV rfl Tryd.underlying23 rfl | exact q_len rfl Tryd.underlying23 rfl (Sl.lenOf hsl15 (List.length_map _)))) ?_
          refine s_g rfl rfl rfl rfl rfl rfl (q_gtr rfl rfl rfl) ?_
          exact s_val rfl
        ) (wanted_n rfl) rfl rfl rfl ?_
      refine s_q rfl rfl rfl (q_assign rfl rfl) ?_
      refine s_done ?_
      refine n_then ?_
      refine t_ret ?_
      refine n_ret1 rfl rfl (fun w' hw => ?_)
      -- leaf 1
      refine ⟨?_, (hw.less hJ15).below⟩
      rw [hl1]
      simp
end Go.Tri
