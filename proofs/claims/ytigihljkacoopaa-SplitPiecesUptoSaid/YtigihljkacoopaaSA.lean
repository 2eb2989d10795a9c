/-
  A text of a proof (SA).
-/
import Derived.Test.YtigihljkacoopaaPSplit
import Derived.Test.YtigihljkacoopaaProg
namespace Go.Tri
open Go.Proofs Go.RowKit
theorem mo : Try.prog.follows .mixedOrders = true := by kernel_rfl
theorem run_ibs (s : List UInt8) (c : UInt8) (w : World) : (Extern.BytealgIndexByte.indexByte #[str s, u8 c]).run Try.prog w = .ok (.int .i64 (Lib.indexByte s c)) w := by
  unfold str u8
  rw [Lib.run_indexByteString]
  simp
set_option maxRecDepth 10000 in
theorem slIndexByte_pure (s : List UInt8) (c : UInt8) (w : World) : Pure Try.prog 22 [str s, u8 c] w (.int .i64 (Lib.indexByte s c)) := by
  refine enter Try.func22 rfl Try.ntmps22 rfl (St.start w (look w) (Le.refl _)) ?_
  refine t_seq ?_
  refine t_region ?_
  refine l_q rfl rfl rfl (q_assign rfl rfl) ?_
  refine l_nil ?_
  refine n_then ?_
  refine t_seq ?_
  refine t_region ?_
  refine l_q rfl rfl rfl (q_move rfl rfl) ?_
  refine l_q rfl rfl rfl (q_move rfl rfl) ?_
  refine l_q rfl rfl rfl (quiet_extern rfl rfl rfl Try.func24 (by kernel_rfl) rfl (by kernel_rfl) (show Extern.find _ = some Extern.BytealgIndexByte.indexByte by kernel_rfl) (fun w => run_ibs s c w)) ?_
  refine l_q rfl rfl rfl (q_assign rfl rfl) ?_
  refine l_nil ?_
  refine n_then ?_
  refine t_ret ?_
  refine n_ret1 rfl rfl (fun w' hw => ?_)
  -- leaf 0
  exact ⟨rfl, hw.below⟩

set_option maxRecDepth 10000 in
theorem indexByte_pure (s : List UInt8) (c : UInt8) (w : World) : Pure Try.prog 20 [str s, u8 c] w (.int .i64 (Lib.indexByte s c)) := by
  refine enter Try.func20 rfl Try.ntmps20 rfl (St.start w (look w) (Le.refl _)) ?_
  refine t_seq ?_
  refine t_region ?_
  refine l_q rfl rfl rfl (q_assign rfl rfl) ?_
  refine l_nil ?_
  refine n_then ?_
  refine t_seq ?_
  refine t_region ?_
  refine l_q rfl rfl rfl (q_move rfl rfl) ?_
  refine l_q rfl rfl rfl (q_move rfl rfl) ?_
  refine l_q rfl rfl rfl (quiet_call rfl rfl rfl Try.func22 (by kernel_rfl) rfl (fun w _ => slIndexByte_pure s c w)) ?_
  refine l_q rfl rfl rfl (q_assign rfl rfl) ?_
  refine l_nil ?_
  refine n_then ?_
  refine t_ret ?_
  refine n_ret1 rfl rfl (fun w' hw => ?_)
  -- leaf 0
  exact ⟨rfl, hw.below⟩

set_option maxRecDepth 10000 in
theorem has_pure (s : List UInt8) (b : UInt8) (w : World) (hs : s.length ≤ 9223372036854775807) : Pure Try.prog 16 [str s, u8 b] w (.bool (hasB s b)) := by
  refine enter Try.func16 rfl Try.ntmps16 rfl (St.start w (look w) (Le.refl _)) ?_
  refine t_seq ?_
  refine t_region ?_
  refine l_q rfl rfl rfl (q_assign rfl rfl) ?_
  refine l_nil ?_
  refine n_then ?_
  refine t_seq ?_
  refine t_seq ?_
  refine t_region ?_
  refine l_q rfl rfl rfl (q_assign rfl rfl) ?_
  refine l_nil ?_
  refine n_then ?_
  refine t_block ?_
  refine t_loopE (ι := Nat) (fun k => k ≤ s.length ∧ hasB s b = hasB (s.drop k) b) (fun k => s.length - k) (fun k => [(5, .int .i64 (k : Int))]) [(0, _), (1, _)] (fun k => look w) (fun k => []) 0 ?_ (sub_cons rfl sub_nil) (sub_cons rfl (sub_cons rfl sub_nil)) (fun _ h => subC_st h) ?_
  · exact ⟨Nat.zero_le _, by simp⟩
  rintro k ⟨hk, hno⟩
  refine t_seq ?_
  refine t_seq ?_
  refine t_region ?_
  refine l_q rfl rfl rfl (q_move rfl rfl) ?_
  refine l_q rfl rfl rfl (q_move rfl rfl) ?_
  refine l_q rfl rfl rfl (q_len_str rfl Try.underlying9 rfl) ?_
  refine l_q rfl rfl rfl (q_lss rfl rfl rfl) ?_
  refine l_nil ?_
  refine n_then ?_
  refine t_cond rfl (fun hc0 => ?_) (fun hc0 => ?_)
  · skip
    try simp at hc0
    refine t_skip ?_
    refine n_then ?_
    refine t_seq ?_
    refine t_block ?_
    refine t_seq ?_
    refine t_region ?_
    refine l_q rfl rfl rfl (q_move rfl rfl) ?_
    refine l_q rfl rfl rfl (q_move rfl rfl) ?_
    refine l_q rfl rfl rfl ((by first | exact q_index_strN rfl Try.underlying9 rfl rfl (by omega) | exact q_index_str rfl Try.underlying9 rfl rfl (by omega))) ?_
    refine l_q rfl rfl rfl (q_move rfl rfl) ?_
    refine l_q rfl rfl rfl (q_eql_u8 rfl rfl rfl) ?_
    refine l_nil ?_
    refine n_then ?_
    refine t_cond rfl (fun hc1 => ?_) (fun hc1 => ?_)
    · skip
      try simp at hc1
      refine t_seq ?_
      refine t_region ?_
      refine l_q rfl rfl rfl (q_assign rfl rfl) ?_
      refine l_nil ?_
      refine n_then ?_
      refine t_ret ?_
      refine n_ret_block ?_
      refine n_ret_then ?_
      refine n_ret_then ?_
      refine n_ret_block ?_
      refine n_ret_then ?_
      refine n_ret1 rfl rfl (fun w' hw => ?_)
      -- leaf 0
      refine ⟨?_, hw.below⟩
      rw [hno, hasB_drop s b k (by omega)]
      simp [hc1]
    · skip
      try simp at hc1
      refine t_skip ?_
      refine n_block ?_
      refine n_then ?_
      refine t_region ?_
      refine l_q rfl rfl rfl (q_move rfl rfl) ?_
      refine l_q rfl rfl rfl (q_add64 rfl rfl rfl (by omega)) ?_
      refine l_q rfl rfl rfl (q_assign rfl rfl) ?_
      refine l_nil ?_
      refine n_roundE (k + 1) ?_ ?_ (sub_cons rfl sub_nil) (sub_cons rfl (sub_cons rfl sub_nil)) (fun _ h => by try dsimp only; exact subC_st h)
      · refine ⟨by omega, hno.trans ?_⟩; rw [hasB_drop s b k (by omega)]; simp [hc1]
      · omega
  · skip
    try simp at hc0
    refine t_exit ?_
    refine n_exit_then ?_
    refine n_exit_then ?_
    refine n_exit_block ?_
    refine n_then ?_
    refine t_seq ?_
    refine t_region ?_
    refine l_q rfl rfl rfl (q_assign rfl rfl) ?_
    refine l_nil ?_
    refine n_then ?_
    refine t_ret ?_
    refine n_ret1 rfl rfl (fun w' hw => ?_)
    -- leaf 1
    refine ⟨?_, hw.below⟩
    rw [hno, List.drop_of_length_le (by omega)]
    rfl
end Go.Tri
