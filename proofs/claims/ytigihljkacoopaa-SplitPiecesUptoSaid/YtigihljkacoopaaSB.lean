/-
  A text of a proof (SB).
-/
import Derived.Test.YtigihljkacoopaaSA
namespace Go.Tri
open Go.Proofs Go.RowKit
theorem eqCh (c d : Ch) (w : World) : (Op.equalIn 10000 49 (.agg (chC c).toArray) (.agg (chC d).toArray)).run Try.prog w = .ok (decide (c = d)) w := by
  rw [run_equalIn_agg w 9999 49 _ _ (by kernel_rfl) (by kernel_rfl)]
  show (Op.eqFields 9999 _ _ [_, _]).run Try.prog w = _
  simp [Op.eqFields, chC, u8, part, run_isAgg_false Try.underlying5 rfl, run_isAgg_false Try.underlying4 rfl]
  rw [run_equalIn_int (P := Try.prog) w 9998 5 .u8 .u8 _ _ Try.underlying5]
  simp only [Result.andThen_ok]
  rw [run_equalIn_bool' (P := Try.prog) w 9998 4 _ _ Try.underlying4]
  obtain ⟨cb, cq⟩ := c
  obtain ⟨db, dq⟩ := d
  simp only [Result.andThen_ok, beq_eq_false_iff_ne, ne_eq, u8_eq, Ch.mk.injEq]
  by_cases h1 : cb = db <;> by_cases h2 : cq = dq <;> simp [h1, h2]

theorem chText_snoc (l : List Ch) (k : Nat) (h : k < l.length) : chText (l.take (k + 1)) = chText (l.take k) ++ [(nth l k ⟨0, false⟩).b] := by
  unfold chText
  rw [take_nth ⟨0, false⟩ h, List.map_append]
  rfl
theorem ti5 : TI Try.prog 5 1 1 (.int .u8 0) := ti_of (by kernel_rfl)
theorem ti33 : TI Try.prog 33 1 24 (.slice none 0 0) := ti_of (by kernel_rfl)
theorem ti49 : TI Try.prog 49 2 2 (.agg #[.int .u8 0, .bool false]) := ti_of (by kernel_rfl)
set_option maxRecDepth 10000 in
theorem refText_pure (v : Value) (l : List Ch) (w : World) (hl : l.length ≤ 1000000) (hv : Sl (look w) 2 v (l.map chC)) : Pure Try.prog 12 [v] w (str (chText l)) := by
  refine enter Try.func12 rfl Try.ntmps12 rfl (St.start w (look w) (Le.refl _)) ?_
  refine t_seq ?_
  refine t_region ?_
  refine l_q rfl rfl rfl (q_assign rfl rfl) ?_
  refine l_nil ?_
  refine n_then ?_
  refine t_seq ?_
  refine t_region ?_
  refine l_q rfl rfl rfl (q_assign rfl rfl) ?_
  refine l_nil ?_
  refine n_then ?_
  refine t_seq ?_
  refine t_seq ?_
  refine t_region ?_
  refine l_q rfl rfl rfl (q_assign rfl rfl) ?_
  refine l_nil ?_
  refine n_then ?_
  refine t_block ?_
  refine t_loopE (ι := Nat × Value) (fun g => g.1 ≤ l.length) (fun g => l.length - g.1) (fun g => [(4, .int .i64 (g.1 : Int)), (3, g.2)]) [(0, _), (2, _)] (fun g => look w) (fun g => [tvec 5 1 byC g.2 (chText (l.take g.1))]) (0, .slice none 0 0) ?_ (sub_cons rfl (sub_cons rfl sub_nil)) (sub_cons rfl (sub_cons rfl sub_nil)) (fun _ h => st_nilT 5 1 byC h) ?_
  · exact Nat.zero_le _
  rintro ⟨k, vb⟩ hk
  dsimp only at *
  refine t_seq ?_
  refine t_seq ?_
  refine t_region ?_
  refine l_q rfl rfl rfl (q_move rfl rfl) ?_
  refine l_q rfl rfl rfl (q_move rfl rfl) ?_
  refine l_q rfl rfl rfl ((by first | exact q_lenV rfl Try.underlying33 rfl | exact q_len rfl Try.underlying33 rfl (Sl.lenOf hv (List.length_map _)))) ?_
  refine l_q rfl rfl rfl (q_lss rfl rfl rfl) ?_
  refine l_nil ?_
  refine n_then ?_
  refine t_cond rfl (fun hc0 => ?_) (fun hc0 => ?_)
  · skip
    try simp at hc0
    refine t_skip ?_
    refine n_then ?_
    refine t_seq ?_
    refine t_block ?_
    refine t_region ?_
    refine l_q rfl rfl rfl (q_move rfl rfl) ?_
    refine l_q rfl rfl rfl (q_move rfl rfl) ?_
    refine l_q rfl rfl rfl (q_move rfl rfl) ?_
    refine l_q rfl rfl rfl ((by first | exact q_indexAddrVN rfl Try.underlying33 ti49 rfl rfl (by omega) | exact q_indexAddrN rfl Try.underlying33 ti49 rfl rfl (Sl.shape hv (List.length_map _)) (by omega) | exact q_indexAddrV rfl Try.underlying33 ti49 rfl rfl (by omega) | exact q_indexAddr rfl Try.underlying33 ti49 rfl rfl (Sl.shape hv (List.length_map _)) (by omega))) ?_
    refine l_q rfl rfl rfl (q_fieldAddr rfl Try.underlying49 rfl rfl ti5 rfl rfl) ?_
    refine l_q rfl rfl rfl ((by first | exact q_load_row rfl Try.underlying5 rfl rfl (by rfl) | exact q_load rfl Try.underlying5 rfl rfl (rd_ch_b hv (by omega)))) ?_
    refine l_e rfl rfl rfl (e_buildSlice1 rfl Try.underlying38 ti5 rfl rfl rfl (by first | exact One.cells (by assumption) | rfl) rfl) ?_
    rintro _ _ _ ⟨b17, rfl, rfl, rfl⟩
    refine l_e rfl rfl rfl (e_appendT (f := byC) (c := (nth l k ⟨0, false⟩).b) rfl Try.underlying38 ti5 rfl rfl rfl rfl rfl rfl rfl (by first | exact byC_ones _ | exact chC_ones _ | exact pcC_ones _ | simp [Value.oneCell', str, u8] | exact ones1 (by assumption)) (by simp [chText, maxLen]; omega) (by simp [chText]; omega)) ?_
    rintro v18 _ _ ⟨rfl, rfl⟩
    refine l_q rfl rfl rfl (q_assign rfl rfl) ?_
    refine l_nil ?_
    refine n_block ?_
    refine n_then ?_
    refine t_region ?_
    refine l_q rfl rfl rfl (q_move rfl rfl) ?_
    refine l_q rfl rfl rfl (q_add64 rfl rfl rfl (by omega)) ?_
    refine l_q rfl rfl rfl (q_assign rfl rfl) ?_
    refine l_nil ?_
    refine n_roundE ((k + 1, v18)) ?_ ?_ (sub_cons rfl (sub_cons rfl sub_nil)) (sub_cons rfl (sub_cons rfl sub_nil)) (fun _ h => by dsimp only; rw [show chText (l.take (k + 1)) = chText (l.take k) ++ [(nth l k ⟨0, false⟩).b] from chText_snoc l k (by omega)]; exact subC_st h)
    · show k + 1 ≤ _; omega
    · show l.length - (k + 1) < l.length - k; omega
  · skip
    try simp at hc0
    refine t_exit ?_
    refine n_exit_then ?_
    refine n_exit_then ?_
    refine n_exit_block ?_
    refine n_then ?_
    refine t_seq ?_
    refine t_region ?_
    refine l_q rfl rfl rfl (q_move rfl rfl) ?_
    refine l_q rfl rfl rfl (q_bytes_str rfl Try.underlying38 Try.underlying9 Try.underlying5 rfl) ?_
    refine l_q rfl rfl rfl (q_assign rfl rfl) ?_
    refine l_nil ?_
    refine n_then ?_
    refine t_ret ?_
    refine n_ret1 rfl rfl (fun w' hw => ?_)
    -- leaf 0
    refine ⟨?_, hw.below⟩
    rw [List.take_of_length_le (by omega)]

set_option maxRecDepth 10000 in
theorem same_pure (va vb : Value) (xs ys : List (List Ch)) (w : World) (hxl : xs.length ≤ 1000000) (hyl : ys.length ≤ 1000000) (hxi : ∀ x ∈ xs, x.length ≤ 1000000) (ha0 : RL (look w) va xs) (hb0 : RL (look w) vb ys) : Pure Try.prog 13 [va, vb] w (.bool (decide (xs = ys))) := by
  obtain ⟨us, ha, hra⟩ := ha0
  obtain ⟨vs, hb, hrb⟩ := hb0
  have hla := hra.1
  have hlb := hrb.1
  refine enter Try.func13 rfl Try.ntmps13 rfl (St.start w (look w) (Le.refl _)) ?_
  refine t_seq ?_
  refine t_region ?_
  refine l_q rfl rfl rfl (q_assign rfl rfl) ?_
  refine l_nil ?_
  refine n_then ?_
  refine t_seq ?_
  refine t_seq ?_
  refine t_region ?_
  refine l_q rfl rfl rfl (q_move rfl rfl) ?_
  refine l_q rfl rfl rfl ((by first | exact q_lenV rfl Try.underlying26 rfl | exact q_len rfl Try.underlying26 rfl (Sl.lenOf ha ((List.length_map _).trans hla)) | exact q_len rfl Try.underlying26 rfl (Sl.lenOf hb ((List.length_map _).trans hlb)) | exact q_len rfl Try.underlying26 rfl (Sl.lenOf hai (List.length_map _)) | exact q_len rfl Try.underlying26 rfl (Sl.lenOf hbi (List.length_map _)))) ?_
  refine l_q rfl rfl rfl (q_move rfl rfl) ?_
  refine l_q rfl rfl rfl ((by first | exact q_lenV rfl Try.underlying26 rfl | exact q_len rfl Try.underlying26 rfl (Sl.lenOf ha ((List.length_map _).trans hla)) | exact q_len rfl Try.underlying26 rfl (Sl.lenOf hb ((List.length_map _).trans hlb)) | exact q_len rfl Try.underlying26 rfl (Sl.lenOf hai (List.length_map _)) | exact q_len rfl Try.underlying26 rfl (Sl.lenOf hbi (List.length_map _)))) ?_
  refine l_q rfl rfl rfl (q_neq rfl rfl rfl) ?_
  refine l_nil ?_
  refine n_then ?_
  refine t_cond rfl (fun hlen => ?_) (fun hlen => ?_)
  · skip
    try simp at hlen
    refine t_seq ?_
    refine t_region ?_
    refine l_q rfl rfl rfl (q_assign rfl rfl) ?_
    refine l_nil ?_
    refine n_then ?_
    refine t_ret ?_
    refine n_ret_then ?_
    refine n_ret1 rfl rfl (fun w' hw => ?_)
    -- leaf 0
    refine ⟨?_, hw.below⟩
    rw [decide_eq_false]
    intro h; subst h; simp at hlen
  · skip
    try simp at hlen
    refine t_skip ?_
    refine n_then ?_
    refine t_seq ?_
    refine t_seq ?_
    refine t_region ?_
    refine l_q rfl rfl rfl (q_assign rfl rfl) ?_
    refine l_nil ?_
    refine n_then ?_
    refine t_block ?_
    refine t_loopE (ι := Nat) (fun i => i ≤ xs.length ∧ ∀ j, j < i → nth xs j [] = nth ys j []) (fun i => xs.length - i) (fun i => [(5, .int .i64 (i : Int))]) [(0, _), (1, _), (11, _)] (fun i => look w) (fun i => []) 0 ?_ (sub_cons rfl sub_nil) (sub_cons rfl (sub_cons rfl (sub_cons rfl sub_nil))) (fun _ h => subC_st h) ?_
    · exact ⟨Nat.zero_le _, fun j hj => absurd hj (Nat.not_lt_zero j)⟩
    rintro i ⟨hi, heq⟩
    refine t_seq ?_
    refine t_seq ?_
    refine t_region ?_
    refine l_q rfl rfl rfl (q_move rfl rfl) ?_
    refine l_q rfl rfl rfl (q_move rfl rfl) ?_
    refine l_q rfl rfl rfl ((by first | exact q_lenV rfl Try.underlying26 rfl | exact q_len rfl Try.underlying26 rfl (Sl.lenOf ha ((List.length_map _).trans hla)) | exact q_len rfl Try.underlying26 rfl (Sl.lenOf hb ((List.length_map _).trans hlb)) | exact q_len rfl Try.underlying26 rfl (Sl.lenOf hai (List.length_map _)) | exact q_len rfl Try.underlying26 rfl (Sl.lenOf hbi (List.length_map _)))) ?_
    refine l_q rfl rfl rfl (q_lss rfl rfl rfl) ?_
    refine l_nil ?_
    refine n_then ?_
    refine t_cond rfl (fun hc1 => ?_) (fun hc1 => ?_)
    · skip
      try simp at hc1
      have hai := hra.at_ (i := i) (by omega)
      have hbi := hrb.at_ (i := i) (by omega)
      have hxl2 : (nth xs i []).length ≤ 1000000 := hxi _ (nth_mem (by omega))
      refine t_skip ?_
      refine n_then ?_
      refine t_seq ?_
      refine t_block ?_
      refine t_seq ?_
      refine t_seq ?_
      refine t_qdraw mo (by kernel_rfl) (fun _ _ _ _ _ h => h) ?_
      refine s_q rfl rfl rfl (q_move rfl rfl) ?_
      refine s_q rfl rfl rfl (q_move rfl rfl) ?_
      refine s_q rfl rfl rfl ((by first | exact q_indexAddrVN rfl Try.underlying26 ti33 rfl rfl (by omega) | exact q_indexAddrN rfl Try.underlying26 ti33 rfl rfl (Sl.shape ha ((List.length_map _).trans hla)) (by omega) | exact q_indexAddrN rfl Try.underlying26 ti33 rfl rfl (Sl.shape hb ((List.length_map _).trans hlb)) (by omega) | exact q_indexAddrN rfl Try.underlying26 ti33 rfl rfl (Sl.shape hai (List.length_map _)) (by omega) | exact q_indexAddrN rfl Try.underlying26 ti33 rfl rfl (Sl.shape hbi (List.length_map _)) (by omega) | exact q_indexAddrV rfl Try.underlying26 ti33 rfl rfl (by omega) | exact q_indexAddr rfl Try.underlying26 ti33 rfl rfl (Sl.shape ha ((List.length_map _).trans hla)) (by omega) | exact q_indexAddr rfl Try.underlying26 ti33 rfl rfl (Sl.shape hb ((List.length_map _).trans hlb)) (by omega) | exact q_indexAddr rfl Try.underlying26 ti33 rfl rfl (Sl.shape hai (List.length_map _)) (by omega) | exact q_indexAddr rfl Try.underlying26 ti33 rfl rfl (Sl.shape hbi (List.length_map _)) (by omega))) ?_
      refine s_q rfl rfl rfl ((by first | exact q_load_row rfl Try.underlying33 rfl rfl (by rfl) | exact q_load rfl Try.underlying33 rfl rfl (rd_row1 ha (by omega)) | exact q_load rfl Try.underlying33 rfl rfl (rd_row1 hb (by omega)))) ?_
      refine s_q rfl rfl rfl ((by first | exact q_lenV rfl Try.underlying33 rfl | exact q_len rfl Try.underlying33 rfl (Sl.lenOf ha ((List.length_map _).trans hla)) | exact q_len rfl Try.underlying33 rfl (Sl.lenOf hb ((List.length_map _).trans hlb)) | exact q_len rfl Try.underlying33 rfl (Sl.lenOf hai (List.length_map _)) | exact q_len rfl Try.underlying33 rfl (Sl.lenOf hbi (List.length_map _)))) ?_
      refine s_q rfl rfl rfl (q_move rfl rfl) ?_
      refine s_q rfl rfl rfl (q_move rfl rfl) ?_
      refine s_q rfl rfl rfl ((by first | exact q_indexAddrVN rfl Try.underlying26 ti33 rfl rfl (by omega) | exact q_indexAddrN rfl Try.underlying26 ti33 rfl rfl (Sl.shape ha ((List.length_map _).trans hla)) (by omega) | exact q_indexAddrN rfl Try.underlying26 ti33 rfl rfl (Sl.shape hb ((List.length_map _).trans hlb)) (by omega) | exact q_indexAddrN rfl Try.underlying26 ti33 rfl rfl (Sl.shape hai (List.length_map _)) (by omega) | exact q_indexAddrN rfl Try.underlying26 ti33 rfl rfl (Sl.shape hbi (List.length_map _)) (by omega) | exact q_indexAddrV rfl Try.underlying26 ti33 rfl rfl (by omega) | exact q_indexAddr rfl Try.underlying26 ti33 rfl rfl (Sl.shape ha ((List.length_map _).trans hla)) (by omega) | exact q_indexAddr rfl Try.underlying26 ti33 rfl rfl (Sl.shape hb ((List.length_map _).trans hlb)) (by omega) | exact q_indexAddr rfl Try.underlying26 ti33 rfl rfl (Sl.shape hai (List.length_map _)) (by omega) | exact q_indexAddr rfl Try.underlying26 ti33 rfl rfl (Sl.shape hbi (List.length_map _)) (by omega))) ?_
      refine s_q rfl rfl rfl ((by first | exact q_load_row rfl Try.underlying33 rfl rfl (by rfl) | exact q_load rfl Try.underlying33 rfl rfl (rd_row1 ha (by omega)) | exact q_load rfl Try.underlying33 rfl rfl (rd_row1 hb (by omega)))) ?_
      refine s_q rfl rfl rfl ((by first | exact q_lenV rfl Try.underlying33 rfl | exact q_len rfl Try.underlying33 rfl (Sl.lenOf ha ((List.length_map _).trans hla)) | exact q_len rfl Try.underlying33 rfl (Sl.lenOf hb ((List.length_map _).trans hlb)) | exact q_len rfl Try.underlying33 rfl (Sl.lenOf hai (List.length_map _)) | exact q_len rfl Try.underlying33 rfl (Sl.lenOf hbi (List.length_map _)))) ?_
      refine s_q rfl rfl rfl (q_neq rfl rfl rfl) ?_
      refine s_done ?_
      refine n_then ?_
      refine t_cond rfl (fun hl2 => ?_) (fun hl2 => ?_)
      · skip
        simp only [Int.toNat_natCast, decide_eq_true_eq, decide_eq_false_iff_not, ne_eq, Decidable.not_not] at hl2
        refine t_seq ?_
        refine t_region ?_
        refine l_q rfl rfl rfl (q_assign rfl rfl) ?_
        refine l_nil ?_
        refine n_then ?_
        refine t_ret ?_
        refine n_ret_then ?_
        refine n_ret_block ?_
        refine n_ret_then ?_
        refine n_ret_then ?_
        refine n_ret_block ?_
        refine n_ret_then ?_
        refine n_ret1 rfl rfl (fun w' hw => ?_)
        -- leaf 1
        refine ⟨?_, hw.below⟩
        rw [decide_eq_false]
        intro h; subst h; exact hl2 rfl
      · skip
        simp only [Int.toNat_natCast, decide_eq_true_eq, decide_eq_false_iff_not, ne_eq, Decidable.not_not] at hl2
        refine t_skip ?_
        refine n_then ?_
        refine t_seq ?_
        refine t_region ?_
        refine l_q rfl rfl rfl (q_assign rfl rfl) ?_
        refine l_nil ?_
        refine n_then ?_
        refine t_block ?_
        refine t_loopE (ι := Nat) (fun k => k ≤ (nth xs i []).length ∧ ∀ m, m < k → nth (nth xs i []) m ⟨0, false⟩ = nth (nth ys i []) m ⟨0, false⟩) (fun k => (nth xs i []).length - k) (fun k => [(6, .int .i64 (k : Int))]) [(5, _), (0, _), (1, _), (11, _), (15, _), (28, _)] (fun k => look w) (fun k => []) 0 ?_ (sub_cons rfl sub_nil) (sub_cons rfl (sub_cons rfl (sub_cons rfl (sub_cons rfl (sub_cons rfl (sub_cons rfl sub_nil)))))) (fun _ h => subC_st h) ?_
        · exact ⟨Nat.zero_le _, fun j hj => absurd hj (Nat.not_lt_zero j)⟩
        rintro k ⟨hk, hek⟩
        refine t_seq ?_
        refine t_seq ?_
        refine t_region ?_
        refine l_q rfl rfl rfl (q_move rfl rfl) ?_
        refine l_q rfl rfl rfl (q_move rfl rfl) ?_
        refine l_q rfl rfl rfl (q_move rfl rfl) ?_
        refine l_q rfl rfl rfl ((by first | exact q_indexAddrVN rfl Try.underlying26 ti33 rfl rfl (by omega) | exact q_indexAddrN rfl Try.underlying26 ti33 rfl rfl (Sl.shape ha ((List.length_map _).trans hla)) (by omega) | exact q_indexAddrN rfl Try.underlying26 ti33 rfl rfl (Sl.shape hb ((List.length_map _).trans hlb)) (by omega) | exact q_indexAddrN rfl Try.underlying26 ti33 rfl rfl (Sl.shape hai (List.length_map _)) (by omega) | exact q_indexAddrN rfl Try.underlying26 ti33 rfl rfl (Sl.shape hbi (List.length_map _)) (by omega) | exact q_indexAddrV rfl Try.underlying26 ti33 rfl rfl (by omega) | exact q_indexAddr rfl Try.underlying26 ti33 rfl rfl (Sl.shape ha ((List.length_map _).trans hla)) (by omega) | exact q_indexAddr rfl Try.underlying26 ti33 rfl rfl (Sl.shape hb ((List.length_map _).trans hlb)) (by omega) | exact q_indexAddr rfl Try.underlying26 ti33 rfl rfl (Sl.shape hai (List.length_map _)) (by omega) | exact q_indexAddr rfl Try.underlying26 ti33 rfl rfl (Sl.shape hbi (List.length_map _)) (by omega))) ?_
        refine l_q rfl rfl rfl ((by first | exact q_load_row rfl Try.underlying33 rfl rfl (by rfl) | exact q_load rfl Try.underlying33 rfl rfl (rd_row1 ha (by omega)) | exact q_load rfl Try.underlying33 rfl rfl (rd_row1 hb (by omega)))) ?_
        refine l_q rfl rfl rfl ((by first | exact q_lenV rfl Try.underlying33 rfl | exact q_len rfl Try.underlying33 rfl (Sl.lenOf ha ((List.length_map _).trans hla)) | exact q_len rfl Try.underlying33 rfl (Sl.lenOf hb ((List.length_map _).trans hlb)) | exact q_len rfl Try.underlying33 rfl (Sl.lenOf hai (List.length_map _)) | exact q_len rfl Try.underlying33 rfl (Sl.lenOf hbi (List.length_map _)))) ?_
        refine l_q rfl rfl rfl (q_lss rfl rfl rfl) ?_
        refine l_nil ?_
        refine n_then ?_
        refine t_cond rfl (fun hc3 => ?_) (fun hc3 => ?_)
        · skip
          try simp at hc3
          refine t_skip ?_
          refine n_then ?_
          refine t_seq ?_
          refine t_block ?_
          refine t_seq ?_
          refine t_qdraw mo (by kernel_rfl) (fun _ _ _ _ _ h => h) ?_
          refine s_q rfl rfl rfl (q_move rfl rfl) ?_
          refine s_q rfl rfl rfl (q_move rfl rfl) ?_
          refine s_q rfl rfl rfl ((by first | exact q_indexAddrVN rfl Try.underlying26 ti33 rfl rfl (by omega) | exact q_indexAddrN rfl Try.underlying26 ti33 rfl rfl (Sl.shape ha ((List.length_map _).trans hla)) (by omega) | exact q_indexAddrN rfl Try.underlying26 ti33 rfl rfl (Sl.shape hb ((List.length_map _).trans hlb)) (by omega) | exact q_indexAddrN rfl Try.underlying26 ti33 rfl rfl (Sl.shape hai (List.length_map _)) (by omega) | exact q_indexAddrN rfl Try.underlying26 ti33 rfl rfl (Sl.shape hbi (List.length_map _)) (by omega) | exact q_indexAddrV rfl Try.underlying26 ti33 rfl rfl (by omega) | exact q_indexAddr rfl Try.underlying26 ti33 rfl rfl (Sl.shape ha ((List.length_map _).trans hla)) (by omega) | exact q_indexAddr rfl Try.underlying26 ti33 rfl rfl (Sl.shape hb ((List.length_map _).trans hlb)) (by omega) | exact q_indexAddr rfl Try.underlying26 ti33 rfl rfl (Sl.shape hai (List.length_map _)) (by omega) | exact q_indexAddr rfl Try.underlying26 ti33 rfl rfl (Sl.shape hbi (List.length_map _)) (by omega))) ?_
          refine s_q rfl rfl rfl ((by first | exact q_load_row rfl Try.underlying33 rfl rfl (by rfl) | exact q_load rfl Try.underlying33 rfl rfl (rd_row1 ha (by omega)) | exact q_load rfl Try.underlying33 rfl rfl (rd_row1 hb (by omega)))) ?_
          refine s_q rfl rfl rfl (q_move rfl rfl) ?_
          refine s_q rfl rfl rfl ((by first | exact q_indexAddrVN rfl Try.underlying33 ti49 rfl rfl (by omega) | exact q_indexAddrN rfl Try.underlying33 ti49 rfl rfl (Sl.shape ha ((List.length_map _).trans hla)) (by omega) | exact q_indexAddrN rfl Try.underlying33 ti49 rfl rfl (Sl.shape hb ((List.length_map _).trans hlb)) (by omega) | exact q_indexAddrN rfl Try.underlying33 ti49 rfl rfl (Sl.shape hai (List.length_map _)) (by omega) | exact q_indexAddrN rfl Try.underlying33 ti49 rfl rfl (Sl.shape hbi (List.length_map _)) (by omega) | exact q_indexAddrV rfl Try.underlying33 ti49 rfl rfl (by omega) | exact q_indexAddr rfl Try.underlying33 ti49 rfl rfl (Sl.shape ha ((List.length_map _).trans hla)) (by omega) | exact q_indexAddr rfl Try.underlying33 ti49 rfl rfl (Sl.shape hb ((List.length_map _).trans hlb)) (by omega) | exact q_indexAddr rfl Try.underlying33 ti49 rfl rfl (Sl.shape hai (List.length_map _)) (by omega) | exact q_indexAddr rfl Try.underlying33 ti49 rfl rfl (Sl.shape hbi (List.length_map _)) (by omega))) ?_
          refine s_q rfl rfl rfl ((by first | exact q_load_rowA rfl Try.underlying49 ti49 rfl rfl rfl | exact q_load_agg rfl Try.underlying49 ti49 rfl rfl (rds_ch hai (by omega)) | exact q_load_agg rfl Try.underlying49 ti49 rfl rfl (rds_ch hbi (by omega)))) ?_
          refine s_q rfl rfl rfl (q_move rfl rfl) ?_
          refine s_q rfl rfl rfl (q_move rfl rfl) ?_
          refine s_q rfl rfl rfl ((by first | exact q_indexAddrVN rfl Try.underlying26 ti33 rfl rfl (by omega) | exact q_indexAddrN rfl Try.underlying26 ti33 rfl rfl (Sl.shape ha ((List.length_map _).trans hla)) (by omega) | exact q_indexAddrN rfl Try.underlying26 ti33 rfl rfl (Sl.shape hb ((List.length_map _).trans hlb)) (by omega) | exact q_indexAddrN rfl Try.underlying26 ti33 rfl rfl (Sl.shape hai (List.length_map _)) (by omega) | exact q_indexAddrN rfl Try.underlying26 ti33 rfl rfl (Sl.shape hbi (List.length_map _)) (by omega) | exact q_indexAddrV rfl Try.underlying26 ti33 rfl rfl (by omega) | exact q_indexAddr rfl Try.underlying26 ti33 rfl rfl (Sl.shape ha ((List.length_map _).trans hla)) (by omega) | exact q_indexAddr rfl Try.underlying26 ti33 rfl rfl (Sl.shape hb ((List.length_map _).trans hlb)) (by omega) | exact q_indexAddr rfl Try.underlying26 ti33 rfl rfl (Sl.shape hai (List.length_map _)) (by omega) | exact q_indexAddr rfl Try.underlying26 ti33 rfl rfl (Sl.shape hbi (List.length_map _)) (by omega))) ?_
          refine s_q rfl rfl rfl ((by first | exact q_load_row rfl Try.underlying33 rfl rfl (by rfl) | exact q_load rfl Try.underlying33 rfl rfl (rd_row1 ha (by omega)) | exact q_load rfl Try.underlying33 rfl rfl (rd_row1 hb (by omega)))) ?_
          refine s_q rfl rfl rfl (q_move rfl rfl) ?_
          refine s_q rfl rfl rfl ((by first | exact q_indexAddrVN rfl Try.underlying33 ti49 rfl rfl (by omega) | exact q_indexAddrN rfl Try.underlying33 ti49 rfl rfl (Sl.shape ha ((List.length_map _).trans hla)) (by omega) | exact q_indexAddrN rfl Try.underlying33 ti49 rfl rfl (Sl.shape hb ((List.length_map _).trans hlb)) (by omega) | exact q_indexAddrN rfl Try.underlying33 ti49 rfl rfl (Sl.shape hai (List.length_map _)) (by omega) | exact q_indexAddrN rfl Try.underlying33 ti49 rfl rfl (Sl.shape hbi (List.length_map _)) (by omega) | exact q_indexAddrV rfl Try.underlying33 ti49 rfl rfl (by omega) | exact q_indexAddr rfl Try.underlying33 ti49 rfl rfl (Sl.shape ha ((List.length_map _).trans hla)) (by omega) | exact q_indexAddr rfl Try.underlying33 ti49 rfl rfl (Sl.shape hb ((List.length_map _).trans hlb)) (by omega) | exact q_indexAddr rfl Try.underlying33 ti49 rfl rfl (Sl.shape hai (List.length_map _)) (by omega) | exact q_indexAddr rfl Try.underlying33 ti49 rfl rfl (Sl.shape hbi (List.length_map _)) (by omega))) ?_
          refine s_q rfl rfl rfl ((by first | exact q_load_rowA rfl Try.underlying49 ti49 rfl rfl rfl | exact q_load_agg rfl Try.underlying49 ti49 rfl rfl (rds_ch hai (by omega)) | exact q_load_agg rfl Try.underlying49 ti49 rfl rfl (rds_ch hbi (by omega)))) ?_
          refine s_q rfl rfl rfl (q_neq_st rfl (by kernel_rfl) rfl rfl (eqCh _ _)) ?_
          refine s_done ?_
          refine n_then ?_
          refine t_cond rfl (fun hc4 => ?_) (fun hc4 => ?_)
          · skip
            simp only [Int.toNat_natCast, Bool.not_eq_true', Bool.not_eq_false', decide_eq_true_eq, decide_eq_false_iff_not, ne_eq, Decidable.not_not, Bool.not_eq_eq_eq_not, Bool.not_true, Bool.not_false] at hc4
            refine t_seq ?_
            refine t_region ?_
            refine l_q rfl rfl rfl (q_assign rfl rfl) ?_
            refine l_nil ?_
            refine n_then ?_
            refine t_ret ?_
            refine n_ret_block ?_
            refine n_ret_then ?_
            refine n_ret_then ?_
            refine n_ret_block ?_
            refine n_ret_block ?_
            refine n_ret_then ?_
            refine n_ret_then ?_
            refine n_ret_block ?_
            refine n_ret_then ?_
            refine n_ret1 rfl rfl (fun w' hw => ?_)
            -- leaf 2
            refine ⟨?_, hw.below⟩
            rw [decide_eq_false]
            intro h; subst h; exact hc4 rfl
          · skip
            simp only [Int.toNat_natCast, Bool.not_eq_true', Bool.not_eq_false', decide_eq_true_eq, decide_eq_false_iff_not, ne_eq, Decidable.not_not, Bool.not_eq_eq_eq_not, Bool.not_true, Bool.not_false] at hc4
            refine t_skip ?_
            refine n_block ?_
            refine n_then ?_
            refine t_region ?_
            refine l_q rfl rfl rfl (q_move rfl rfl) ?_
            refine l_q rfl rfl rfl (q_add64 rfl rfl rfl (by omega)) ?_
            refine l_q rfl rfl rfl (q_assign rfl rfl) ?_
            refine l_nil ?_
            refine n_roundE (k + 1) ?_ ?_ (sub_cons rfl sub_nil) (sub_cons rfl (sub_cons rfl (sub_cons rfl (sub_cons rfl (sub_cons rfl (sub_cons rfl sub_nil)))))) (fun _ h => by try dsimp only; exact subC_st h)
            · refine ⟨by omega, fun m hm => ?_⟩; rcases Nat.lt_succ_iff_lt_or_eq.1 hm with h | rfl; exact hek m h; exact hc4
            · omega
        · skip
          try simp at hc3
          refine t_exit ?_
          refine n_exit_then ?_
          refine n_exit_then ?_
          refine n_exit_block ?_
          refine n_block ?_
          refine n_then ?_
          refine t_region ?_
          refine l_q rfl rfl rfl (q_move rfl rfl) ?_
          refine l_q rfl rfl rfl (q_add64 rfl rfl rfl (by omega)) ?_
          refine l_q rfl rfl rfl (q_assign rfl rfl) ?_
          refine l_nil ?_
          refine n_roundE (i + 1) ?_ ?_ (sub_cons rfl sub_nil) (sub_cons rfl (sub_cons rfl (sub_cons rfl sub_nil))) (fun _ h => by try dsimp only; exact subC_st h)
          · refine ⟨by omega, fun j hj => ?_⟩; rcases Nat.lt_succ_iff_lt_or_eq.1 hj with h | rfl; exact heq j h; exact beq_lists (by omega) ⟨0, false⟩ (fun m hm => hek m (by omega))
          · omega
    · skip
      try simp at hc1
      refine t_exit ?_
      refine n_exit_then ?_
      refine n_exit_then ?_
      refine n_exit_block ?_
      refine n_then ?_
      refine t_seq ?_
      refine t_region ?_
      refine l_q rfl rfl rfl (q_assign rfl rfl) ?_
      refine l_nil ?_
      refine n_then ?_
      refine t_ret ?_
      refine n_ret1 rfl rfl (fun w' hw => ?_)
      -- leaf 3
      refine ⟨?_, hw.below⟩
      rw [decide_eq_true (beq_lists (by omega) [] (fun j hj => heq j (by omega)))]
end Go.Tri
