/-
  Quotes and lines.
-/
import Derived.Test.YtigfpkcaakkgaaaDoorOA1
namespace Go.Tri
open Go.Proofs Go.RowKit
theorem contF_pure (s : List UInt8) (w : World) : Pure Tryd.prog 34 [str s, .func (.func 32) #[] #[]] w (.bool (!s.all plainC)) := by
  refine (Tryd.strings_ContainsFunc_grows 32 #[] (fun args w => call_of Tryd.func32 (by kernel_rfl) rfl args w) oddR ⟨s.toArray⟩ w ?_).mono fun e w' ⟨h1, h2⟩ => ?_
  · intro W x _ _
    exact (quote1_pure x W)
  · refine ⟨?_, h2⟩
    rw [h1, idxFunc_plain]
theorem repl_pure (s : List UInt8) (w : World) (hs : s.length ≤ 1000000000) (hG : GW w) : Pure Tryd.prog 35 [str s, str [39], str [39, 92, 39, 39]] w (str (escB s)) := by
  obtain ⟨m, hm⟩ := hG.max
  have hsz := size_str s
  refine (Tryd.strings_ReplaceAll ⟨s.toArray⟩ ⟨#[39]⟩ ⟨#[39, 92, 39, 39]⟩ m w (by omega) hm (by decide) ?_).mono fun e w' ⟨h1, h2⟩ => ?_
  · have := Lib.countB_le ⟨#[39]⟩ (by decide) s.length ⟨s.toArray⟩ (by omega)
    have h4 : (⟨#[39, 92, 39, 39]⟩ : ByteArray).size = 4 := rfl
    rw [h4]
    omega
  · refine ⟨?_, h2⟩
    rw [h1]
    show Ending.returned (Value.string ⟨(Lib.replaceAll s.toArray.toList [39] [39, 92, 39, 39]).toArray⟩) = _
    rw [show s.toArray.toList = s from by simp, replaceAll_esc]
    rfl
set_option maxRecDepth 10000 in
theorem quote_pure (s : List UInt8) (w : World) (hs : s.length ≤ 1000000000) (hG : GW w) : Pure Tryd.prog 17 [str s] w (str (quoteB s)) := by
  refine enter Tryd.func17 rfl Tryd.ntmps17 rfl (St.start w (look w) (Le.refl _)) ?_
  refine t_seq ?_
  refine t_region ?_
  refine l_q rfl rfl rfl (q_assign rfl rfl) ?_
  refine l_nil ?_
  refine n_then ?_
  refine t_seq ?_
  refine t_region ?_
  refine l_q rfl rfl rfl (q_assign rfl rfl) ?_
  refine l_nil ?_
  refine n_then ?_
  refine t_seq ?_
  refine t_seq ?_
  refine t_qreg ?_
  refine s_q rfl rfl rfl (q_move rfl rfl) ?_
  refine s_q rfl rfl rfl (q_neq_str rfl rfl rfl) ?_
  refine s_q rfl rfl rfl (q_move rfl rfl) ?_
  refine s_and2 4 2 6 11 10 _ _ rfl rfl rfl rfl rfl rfl (fun h11 => by
      try simp at h11
      refine s_g rfl rfl rfl rfl rfl rfl (q_move rfl rfl) ?_
      refine s_g rfl rfl rfl rfl rfl rfl (q_move rfl rfl) ?_
      refine s_g rfl rfl rfl rfl rfl rfl (quiet_call rfl rfl rfl Tryd.func34 (by kernel_rfl) rfl ((fun w _ => contF_pure s w))) ?_
      refine s_g rfl rfl rfl rfl rfl rfl (q_not rfl rfl) ?_
      exact s_val rfl
    ) (wanted_n rfl) rfl rfl rfl ?_
  refine s_done ?_
  refine n_then ?_
  refine t_cond rfl (fun hc0 => ?_) (fun hc0 => ?_)
  · skip
    refine t_seq ?_
    refine t_region ?_
    refine l_q rfl rfl rfl (q_move rfl rfl) ?_
    refine l_q rfl rfl rfl (q_assign rfl rfl) ?_
    refine l_nil ?_
    refine n_then ?_
    refine t_ret ?_
    refine n_ret_then ?_
    refine n_ret1 rfl rfl (fun w' hw => ?_)
    -- leaf 0
    refine ⟨?_, hw.below⟩
    rw [quoteB, if_pos]; rw [← hc0]; simp
  · skip
    refine t_skip ?_
    refine n_then ?_
    refine t_seq ?_
    have hel := escB_len s
    refine t_region ?_
    refine l_q rfl rfl rfl (q_move rfl rfl) ?_
    refine l_q rfl rfl rfl (quiet_call rfl rfl rfl Tryd.func35 (by kernel_rfl) rfl ((fun w hw => repl_pure s w hs (hG.le hw.le)))) ?_
    refine l_q rfl rfl rfl (q_cat rfl rfl rfl (by first | omega | (simp only [List.length_append, List.length_cons, List.length_nil, List.length_take, List.length_drop]; omega))) ?_
    refine l_q rfl rfl rfl (q_cat rfl rfl rfl (by first | omega | (simp only [List.length_append, List.length_cons, List.length_nil, List.length_take, List.length_drop]; omega))) ?_
    refine l_q rfl rfl rfl (q_assign rfl rfl) ?_
    refine l_nil ?_
    refine n_then ?_
    refine t_ret ?_
    refine n_ret1 rfl rfl (fun w' hw => ?_)
    -- leaf 1
    refine ⟨?_, hw.below⟩
    rw [quoteB, if_neg]; rw [Bool.not_eq_true, ← hc0]; simp
end Go.Tri
