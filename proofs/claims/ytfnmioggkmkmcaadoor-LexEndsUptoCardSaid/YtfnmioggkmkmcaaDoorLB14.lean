/-
  The statement: LexEnds.
-/
import Derived.Test.YtfnmioggkmkmcaaDoorLB2
import Derived.Test.YtfnmioggkmkmcaaDoorLB13
namespace Go.Tri
open Go.Proofs Go.RowKit
theorem rd_flag {w0 : World} {I : Look} {H : List HA} {b T : Nat} {k : Nat} (hm : row b T [.bool false, .bool true] ∈ H) (hk : k < 2) : Rd w0 I H b (0 + k * 1) (.bool (decide (k = 1))) := by
  rcases Nat.lt_or_ge k 1 with h | h
  · obtain rfl : k = 0 := by omega
    exact rd_row hm rfl
  · obtain rfl : k = 1 := by omega
    exact rd_row hm rfl
set_option maxRecDepth 10000 in
theorem lexEnds_pure (s : List UInt8) (i d : Int) (w : World) (hs : s.length ≤ 1048576) (hG : EnvI (look w)) : Pure Tryd.prog 7 [str s, .int .i64 i, .int .i64 d] w (.bool true) := by
  refine enter Tryd.func7 rfl Tryd.ntmps7 rfl (St.start w (look w) (Le.refl _)) ?_
  refine t_seq ?_
  refine t_region ?_
  refine l_q rfl rfl rfl (q_assign rfl rfl) ?_
  refine l_nil ?_
  refine n_then ?_
  refine t_seq ?_
  refine t_seq ?_
  refine t_region ?_
  refine l_q rfl rfl rfl (quiet_call rfl rfl rfl Tryd.func9 (by kernel_rfl) rfl ((fun w hw => awake_pure w (hG.mono hw.le)))) ?_
  refine l_q rfl rfl rfl (q_not rfl rfl) ?_
  refine l_nil ?_
  refine n_then ?_
  refine t_cond rfl (fun hc0 => ?_) (fun hc0 => ?_)
  · skip
    try simp at hc0
  · skip
    try simp at hc0
    refine t_skip ?_
    refine n_then ?_
    refine t_seq ?_
    refine t_seq ?_
    refine t_region ?_
    refine l_e rfl rfl rfl (e_buildSliceN (vs := [_, _]) (css := [[.bool false], [.bool true]]) rfl Tryd.underlying38 ti4 rfl rfl rfl rfl (rfl) (by simp [pcC, chC])) ?_
    rintro _ _ _ ⟨b17, rfl, rfl, rfl⟩
    refine l_q rfl rfl rfl ((by first | exact q_lenV rfl Tryd.underlying38 rfl | exact q_len rfl Tryd.underlying38 rfl (⟨_, _, rfl⟩))) ?_
    refine l_q rfl rfl rfl (q_move rfl rfl) ?_
    refine l_nil ?_
    refine n_then ?_
    refine t_block ?_
    refine t_loopE (ι := Nat) (fun zz => zz ≤ 2) (fun zz => 2 - zz) (fun zz => [(19, .int .i64 (zz : Int))]) [(0, _), (1, _), (2, _), (16, _), (17, _), (18, _)] (fun zz => look w) (fun zz => [row b17 4 [.bool false, .bool true]]) 0 ?_ (sub_cons rfl sub_nil) (sub_cons rfl (sub_cons rfl (sub_cons rfl (sub_cons rfl (sub_cons rfl (sub_cons rfl sub_nil)))))) (fun _ h => h) ?_
    · try dsimp only
      exact Nat.zero_le _
    rintro k hk
    try dsimp only at *
    refine t_seq ?_
    refine t_region ?_
    refine l_q rfl rfl rfl (q_lss rfl rfl rfl) ?_
    refine l_nil ?_
    refine n_then ?_
    refine t_seq ?_
    refine t_cond rfl (fun hc1 => ?_) (fun hc1 => ?_)
    · skip
      try simp at hc1
      refine t_skip ?_
      refine n_then ?_
      refine t_seq ?_
      refine t_block ?_
      refine t_seq ?_
      refine t_region ?_
      refine l_q rfl rfl rfl ((by first | exact q_indexAddrVN rfl Tryd.underlying38 ti4 rfl rfl (by omega) | exact q_indexAddrN rfl Tryd.underlying38 ti4 rfl rfl (⟨_, _, rfl, fun _ _ h => by cases h; rfl, fun _ h => by cases h⟩) (by omega) | exact q_indexAddrV rfl Tryd.underlying38 ti4 rfl rfl (by omega) | exact q_indexAddr rfl Tryd.underlying38 ti4 rfl rfl (⟨_, _, rfl, fun _ _ h => by cases h; rfl, fun _ h => by cases h⟩) (by omega))) ?_
      refine l_q rfl rfl rfl ((by first | exact q_load_row rfl Tryd.underlying4 rfl rfl (by rfl) | exact q_load rfl Tryd.underlying4 rfl rfl (rd_flag (b := b17) (T := 4) (k := k) List.mem_cons_self (by omega)))) ?_
      refine l_q rfl rfl rfl (q_assign rfl rfl) ?_
      refine l_nil ?_
      refine n_then ?_
      refine t_seq ?_
      refine t_region ?_
      refine l_q rfl rfl rfl (q_move rfl rfl) ?_
      refine l_q rfl rfl rfl (q_move rfl rfl) ?_
      refine l_q rfl rfl rfl (q_move rfl rfl) ?_
      refine l_q rfl rfl rfl (q_move rfl rfl) ?_
      refine l_q rfl rfl rfl (quiet_call rfl rfl rfl Tryd.func13 (by kernel_rfl) rfl ((fun w _ => end_pure s i d (decide (k = 1)) w (by omega)))) ?_
      refine l_q rfl rfl rfl (q_move rfl rfl) ?_
      refine l_q rfl rfl rfl (q_extract rfl rfl rfl) ?_
      refine l_q rfl rfl rfl (q_extract rfl rfl rfl) ?_
      refine l_q rfl rfl rfl (q_extract rfl rfl rfl) ?_
      refine l_q rfl rfl rfl (q_assign rfl rfl) ?_
      refine l_q rfl rfl rfl (q_assign rfl rfl) ?_
      refine l_q rfl rfl rfl (q_assign rfl rfl) ?_
      refine l_nil ?_
      refine n_then ?_
      refine t_seq ?_
      refine t_region ?_
      refine l_q rfl rfl rfl (q_move rfl rfl) ?_
      refine l_q rfl rfl rfl (q_move rfl rfl) ?_
      refine l_q rfl rfl rfl (q_move rfl rfl) ?_
      refine l_q rfl rfl rfl (q_move rfl rfl) ?_
      refine l_q rfl rfl rfl (quiet_call rfl rfl rfl Tryd.func14 (by kernel_rfl) rfl ((fun w _ => rend_pure s i d (decide (k = 1)) w (by omega)))) ?_
      refine l_q rfl rfl rfl (q_move rfl rfl) ?_
      refine l_q rfl rfl rfl (q_extract rfl rfl rfl) ?_
      refine l_q rfl rfl rfl (q_extract rfl rfl rfl) ?_
      refine l_q rfl rfl rfl (q_extract rfl rfl rfl) ?_
      refine l_q rfl rfl rfl (q_assign rfl rfl) ?_
      refine l_q rfl rfl rfl (q_assign rfl rfl) ?_
      refine l_q rfl rfl rfl (q_assign rfl rfl) ?_
      refine l_nil ?_
      refine n_then ?_
      refine t_seq ?_
      refine t_qreg ?_
      refine s_q rfl rfl rfl (q_move rfl rfl) ?_
      refine s_q rfl rfl rfl (q_move rfl rfl) ?_
      refine s_q rfl rfl rfl (q_neq rfl rfl rfl) ?_
      refine s_q rfl rfl rfl (q_move rfl rfl) ?_
      refine s_or2 3 3 44 48 47 _ _ rfl rfl rfl rfl rfl rfl (fun h48 => by
          try simp at h48
          refine s_g rfl rfl rfl rfl rfl rfl (q_move rfl rfl) ?_
          refine s_g rfl rfl rfl rfl rfl rfl (q_move rfl rfl) ?_
          refine s_g rfl rfl rfl rfl rfl rfl (q_neq rfl rfl rfl) ?_
          exact s_val rfl
        ) (wanted_n rfl) rfl rfl rfl ?_
      refine s_q rfl rfl rfl (q_move rfl rfl) ?_
      refine s_or2 3 8 49 53 52 _ _ rfl rfl rfl rfl rfl rfl (fun h53 => by
          try simp at h53
          refine s_g rfl rfl rfl rfl rfl rfl (q_move rfl rfl) ?_
          refine s_g rfl rfl rfl rfl rfl rfl (q_move rfl rfl) ?_
          refine s_g rfl rfl rfl rfl rfl rfl (q_neq rfl rfl rfl) ?_
          exact s_val rfl
        ) (wanted_n rfl) rfl rfl rfl ?_
      refine s_done ?_
      refine n_then ?_
      refine t_cond rfl (fun hc2 => ?_) (fun hc2 => ?_)
      · skip
        exfalso
        simp at hc2
      · skip
        refine t_skip ?_
        refine n_block ?_
        refine n_then ?_
        refine t_region ?_
        refine l_q rfl rfl rfl (q_add64 rfl rfl rfl (by omega)) ?_
        refine l_q rfl rfl rfl (q_move rfl rfl) ?_
        refine l_nil ?_
        refine n_roundE (k + 1) ?_ ?_ (sub_cons rfl sub_nil) (sub_cons rfl (sub_cons rfl (sub_cons rfl (sub_cons rfl (sub_cons rfl (sub_cons rfl sub_nil)))))) (fun _ h => by try dsimp only; exact subC_st h)
        · try dsimp only
          omega
        · try dsimp only
          show 2 - (k + 1) < 2 - k
          omega
    · skip
      try simp at hc1
      refine t_exit ?_
      refine n_exit_then ?_
      refine n_exit_then ?_
      refine n_exit_block ?_
      refine n_then ?_
      refine t_seq ?_
      refine t_region ?_
      refine l_q rfl rfl rfl (q_assign rfl rfl) ?_
      refine l_nil ?_
      refine n_then ?_
      refine t_ret ?_
      refine n_ret1 rfl rfl (fun w' hw => ?_)
      -- leaf 0
      exact ⟨rfl, hw.below⟩
end Go.Tri
