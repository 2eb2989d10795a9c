/-
  The statements: awake.
-/
import Derived.Test.YtigfpkcaakkgaaaDoorOA4
namespace Go.Tri
open Go.Proofs Go.RowKit
set_option maxRecDepth 10000 in
theorem awake_pure (w : World) (hG : GW w) : Pure Tryd.prog 10 [] w (.bool true) := by
  refine enter Tryd.func10 rfl Tryd.ntmps10 rfl (St.start w (look w) (Le.refl _)) ?_
  refine t_seq ?_
  refine t_region ?_
  refine l_q rfl rfl rfl (q_assign rfl rfl) ?_
  refine l_nil ?_
  refine n_then ?_
  refine t_seq ?_
  refine t_region ?_
  refine l_q rfl rfl rfl (quiet_call rfl rfl rfl Tryd.func12 (by kernel_rfl) rfl ((fun w hw => number_pure [43, 48, 48, 55] w (by decide) (hG.le hw.le)))) ?_
  refine l_q rfl rfl rfl (q_move rfl rfl) ?_
  refine l_q rfl rfl rfl (q_extract rfl rfl rfl) ?_
  refine l_q rfl rfl rfl (q_extract rfl rfl rfl) ?_
  refine l_q rfl rfl rfl (q_assign rfl rfl) ?_
  refine l_q rfl rfl rfl (q_assign rfl rfl) ?_
  refine l_nil ?_
  refine n_then ?_
  refine t_seq ?_
  refine t_qreg ?_
  refine s_q rfl rfl rfl (q_move rfl rfl) ?_
  refine s_q rfl rfl rfl (q_move rfl rfl) ?_
  refine s_and2 2 1 8 11 10 _ _ rfl rfl rfl rfl rfl rfl (fun h11 => by
      try simp at h11
      refine s_g rfl rfl rfl rfl rfl rfl (q_move rfl rfl) ?_
      refine s_g rfl rfl rfl rfl rfl rfl (q_eql rfl rfl rfl) ?_
      exact s_val rfl
    ) (wanted_n rfl) rfl rfl rfl ?_
  refine s_q rfl rfl rfl (q_move rfl rfl) ?_
  refine s_and2 2 5 12 15 14 _ _ rfl rfl rfl rfl rfl rfl (fun h15 => by
      try simp at h15
      refine s_g rfl rfl rfl rfl rfl rfl (quiet_call rfl rfl rfl Tryd.func11 (by kernel_rfl) rfl ((fun w hw => decimal_pure (-12) w (by omega) (hG.le hw.le)))) ?_
      refine s_g rfl rfl rfl rfl rfl rfl (q_eql_str rfl rfl rfl) ?_
      exact s_val rfl
    ) (wanted_n rfl) rfl rfl rfl ?_
  refine s_q rfl rfl rfl (q_move rfl rfl) ?_
  refine s_and2 2 9 16 19 18 _ _ rfl rfl rfl rfl rfl rfl (fun h19 => by
      try simp at h19
      refine s_g rfl rfl rfl rfl rfl rfl (quiet_call rfl rfl rfl Tryd.func17 (by kernel_rfl) rfl ((fun w hw => quote_pure [97, 32, 98] w (by decide) (hG.le hw.le)))) ?_
      refine s_g rfl rfl rfl rfl rfl rfl (q_eql_str rfl rfl rfl) ?_
      exact s_val rfl
    ) (wanted_n rfl) rfl rfl rfl ?_
  refine s_q rfl rfl rfl (q_assign rfl rfl) ?_
  refine s_done ?_
  refine n_then ?_
  refine t_ret ?_
  refine n_ret1 rfl rfl (fun w' hw => ?_)
  -- leaf 0
  refine ⟨?_, hw.below⟩
  refine congrArg (fun b => Ending.returned (Value.bool b)) (?_ : _ = true)
  decide +kernel
end Go.Tri
