/-
  Does a text stand unquoted at the beginning?
-/
import Derived.Test.YtlhjbemcapnmjaaPA0
namespace Go.Tri
open Go.Proofs Go.RowKit
theorem eqCh (c d : Ch) (w : World) : (Op.equalIn 10000 29 (.agg (chC c).toArray) (.agg (chC d).toArray)).run Try.prog w = .ok (decide (c = d)) w := by
  rw [run_equalIn_agg w 9999 29 _ _ (by kernel_rfl) (by kernel_rfl)]
  show (Op.eqFields 9999 _ _ [_, _]).run Try.prog w = _
  simp [Op.eqFields, chC, u8, part, run_isAgg_false Try.underlying5 rfl, run_isAgg_false Try.underlying4 rfl]
  rw [run_equalIn_int (P := Try.prog) w 9998 5 .u8 .u8 _ _ Try.underlying5]
  simp only [Result.andThen_ok]
  rw [run_equalIn_bool' (P := Try.prog) w 9998 4 _ _ Try.underlying4]
  obtain ⟨cb, cq⟩ := c
  obtain ⟨db, dq⟩ := d
  simp only [Result.andThen_ok, beq_eq_false_iff_ne, ne_eq, u8_eq, Ch.mk.injEq]
  by_cases h1 : cb = db <;> by_cases h2 : cq = dq <;> simp [h1, h2]
theorem rds_ch0 {w0 : World} {I : Look} {H : List HA} {v : Value} {l : List Ch} (h : Sl I 2 v (l.map chC)) {i : Nat} (hi : i < l.length) : Rds w0 I H (adr v).block ((adr v).off + i * 2) (chC (nth l i ch0)) := rds_ch h hi
theorem rd_ch_b0 {w0 : World} {I : Look} {H : List HA} {v : Value} {l : List Ch} (h : Sl I 2 v (l.map chC)) {i : Nat} (hi : i < l.length) : Rd w0 I H (adr v).block ((adr v).off + i * 2 + 0) (u8 (nth l i ch0).b) := rd_ch_b h hi
theorem rd_ch_q0 {w0 : World} {I : Look} {H : List HA} {v : Value} {l : List Ch} (h : Sl I 2 v (l.map chC)) {i : Nat} (hi : i < l.length) : Rd w0 I H (adr v).block ((adr v).off + i * 2 + 1) (.bool (nth l i ch0).q) := h.rd (map_getD l chC ch0 hi) rfl
set_option maxRecDepth 10000 in
theorem starts_pure (v : Value) (p : List Ch) (s : List UInt8) (w : World) (hp : p.length ≤ 4611686018427387904) (hs : s.length ≤ 4611686018427387904) (hv : Sl (look w) 2 v (p.map chC)) : Pure Try.prog 22 [v, str s] w (.bool (startsP p s)) := by
  refine enter Try.func22 rfl Try.ntmps22 rfl (St.start w (look w) (Le.refl _)) ?_
  refine t_seq ?_
  refine t_region ?_
  refine l_q rfl rfl rfl (q_assign rfl rfl) ?_
  refine l_nil ?_
  refine n_then ?_
  refine t_seq ?_
  refine t_seq ?_
  refine t_region ?_
  refine l_q rfl rfl rfl (q_move rfl rfl) ?_
  refine l_q rfl rfl rfl ((by first | exact q_lenV rfl Try.underlying22 rfl | exact q_len rfl Try.underlying22 rfl (Sl.lenOf hv (List.length_map _)))) ?_
  refine l_q rfl rfl rfl (q_move rfl rfl) ?_
  refine l_q rfl rfl rfl (q_len_str rfl Try.underlying9 rfl) ?_
  refine l_q rfl rfl rfl (q_lss rfl rfl rfl) ?_
  refine l_nil ?_
  refine n_then ?_
  refine t_cond rfl (fun hc0 => ?_) (fun hc0 => ?_)
  · skip
    try simp at hc0
    refine t_seq ?_
    refine t_region ?_
    refine l_q rfl rfl rfl (q_assign rfl rfl) ?_
    refine l_nil ?_
    refine n_then ?_
    refine t_ret ?_
    refine n_ret_then ?_
    refine n_ret1 rfl rfl (fun w' hw => ?_)
    -- leaf 0
    refine ⟨?_, hw.below⟩
    rw [startsP_short p s (by omega)]
  · skip
    try simp at hc0
    refine t_skip ?_
    refine n_then ?_
    refine t_seq ?_
    refine t_seq ?_
    refine t_region ?_
    refine l_q rfl rfl rfl (q_move rfl rfl) ?_
    refine l_q rfl rfl rfl (q_len_str rfl Try.underlying9 rfl) ?_
    refine l_q rfl rfl rfl (q_move rfl rfl) ?_
    refine l_nil ?_
    refine n_then ?_
    refine t_block ?_
    refine t_loopE (ι := Nat) (fun i => i ≤ s.length ∧ startsP p s = startsP (p.drop i) (s.drop i)) (fun i => s.length - i) (fun i => [(13, .int .i64 (i : Int))]) [(0, _), (1, _), (10, _), (12, _)] (fun i => look w) (fun i => []) 0 ?_ (sub_cons rfl sub_nil) (sub_cons rfl (sub_cons rfl (sub_cons rfl (sub_cons rfl sub_nil)))) (fun _ h => subC_st h) ?_
    · try dsimp only
      exact ⟨Nat.zero_le _, by simp⟩
    rintro i ⟨hi, hst⟩
    refine t_seq ?_
    refine t_region ?_
    refine l_q rfl rfl rfl (q_lss rfl rfl rfl) ?_
    refine l_nil ?_
    refine n_then ?_
    refine t_seq ?_
    refine t_cond rfl (fun hc1 => ?_) (fun hc1 => ?_)
    · skip
      try simp at hc1
      refine t_skip ?_
      refine n_then ?_
      refine t_seq ?_
      refine t_block ?_
      refine t_seq ?_
      refine t_region ?_
      refine l_q rfl rfl rfl (q_move rfl rfl) ?_
      refine l_q rfl rfl rfl (q_assign rfl rfl) ?_
      refine l_nil ?_
      refine n_then ?_
      refine t_seq ?_
      refine t_qdraw mo (by kernel_rfl) (fun _ _ _ _ _ h => h) ?_
      refine s_q rfl rfl rfl (q_move rfl rfl) ?_
      refine s_q rfl rfl rfl (q_move rfl rfl) ?_
      refine s_q rfl rfl rfl ((by first | exact q_indexAddrVN rfl Try.underlying22 ti29 rfl rfl (by omega) | exact q_indexAddrN rfl Try.underlying22 ti29 rfl rfl (Sl.shape hv (List.length_map _)) (by omega) | exact q_indexAddrV rfl Try.underlying22 ti29 rfl rfl (by omega) | exact q_indexAddr rfl Try.underlying22 ti29 rfl rfl (Sl.shape hv (List.length_map _)) (by omega))) ?_
      refine s_q rfl rfl rfl ((by first | exact q_load_rowA rfl Try.underlying29 ti29 rfl rfl rfl | exact q_load_agg rfl Try.underlying29 ti29 rfl rfl (rds_ch0 (i := i) hv (by omega)))) ?_
      refine s_q rfl rfl rfl (q_move rfl rfl) ?_
      refine s_q rfl rfl rfl (q_move rfl rfl) ?_
      refine s_q rfl rfl rfl ((by first | exact q_index_strN rfl Try.underlying9 rfl rfl (by omega) | exact q_index_str rfl Try.underlying9 rfl rfl (by omega))) ?_
      refine s_q rfl rfl rfl (q_build (pl := [(_, _), (_, _)]) (cs := (chC (uq (nth s i 0))).toArray) rfl Try.underlying29 ti29 ⟨rfl, ⟨_, _, ti5⟩, rfl, ⟨_, _, ti4⟩, trivial⟩ rfl rfl) ?_
      refine s_q rfl rfl rfl (q_neq_st rfl (by kernel_rfl) rfl rfl (eqCh _ _)) ?_
      refine s_done ?_
      refine n_then ?_
      refine t_cond rfl (fun hc2 => ?_) (fun hc2 => ?_)
      · skip
        simp only [Bool.not_eq_true', Bool.not_eq_false', decide_eq_true_eq, decide_eq_false_iff_not] at hc2
        refine t_seq ?_
        refine t_region ?_
        refine l_q rfl rfl rfl (q_assign rfl rfl) ?_
        refine l_nil ?_
        refine n_then ?_
        refine t_ret ?_
        refine n_ret_block ?_
        refine n_ret_then ?_
        refine n_ret_then ?_
        refine n_ret_block ?_
        refine n_ret_then ?_
        refine n_ret1 rfl rfl (fun w' hw => ?_)
        -- leaf 1
        refine ⟨?_, hw.below⟩
        rw [hst, startsP_drop p s i (by omega) (by omega)]; simp [hc2]
      · skip
        simp only [Bool.not_eq_true', Bool.not_eq_false', decide_eq_true_eq, decide_eq_false_iff_not] at hc2
        refine t_skip ?_
        refine n_block ?_
        refine n_then ?_
        refine t_region ?_
        refine l_q rfl rfl rfl (q_add64 rfl rfl rfl (by omega)) ?_
        refine l_q rfl rfl rfl (q_move rfl rfl) ?_
        refine l_nil ?_
        refine n_roundE (i + 1) ?_ ?_ (sub_cons rfl sub_nil) (sub_cons rfl (sub_cons rfl (sub_cons rfl (sub_cons rfl sub_nil)))) (fun _ h => by try dsimp only; exact subC_st h)
        · try dsimp only
          refine ⟨by omega, hst.trans ?_⟩; rw [startsP_drop p s i (by omega) (by omega), hc2]; simp
        · try dsimp only
          omega
    · skip
      try simp at hc1
      refine t_exit ?_
      refine n_exit_then ?_
      refine n_exit_then ?_
      refine n_exit_block ?_
      refine n_then ?_
      refine t_seq ?_
      refine t_region ?_
      refine l_q rfl rfl rfl (q_assign rfl rfl) ?_
      refine l_nil ?_
      refine n_then ?_
      refine t_ret ?_
      refine n_ret1 rfl rfl (fun w' hw => ?_)
      -- leaf 2
      refine ⟨?_, hw.below⟩
      rw [hst, show s.drop i = [] from List.drop_of_length_le (by omega), startsP_nil]
end Go.Tri
