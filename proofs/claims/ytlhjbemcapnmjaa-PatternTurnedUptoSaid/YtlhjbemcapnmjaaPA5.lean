/-
  One element; a whole text.
-/
import Derived.Test.YtlhjbemcapnmjaaPA4
namespace Go.Tri
open Go.Proofs Go.RowKit
theorem startsP_ne {p : List Ch} {b : UInt8} (h : startsP p [b] = true) : p ≠ [] := by rintro rfl; cases h
theorem neq_nil {s : List UInt8} : (decide (s ≠ [])) = true → s ≠ [] := of_decide_eq_true
set_option maxRecDepth 10000 in
theorem one_X (v : Value) (p : List Ch) (c : UInt8) (I : Look) (w : World) (hI : Le I (look w)) (hp : p.length ≤ 4611686018427387904) (hp0 : p ≠ []) (hv : Sl I 2 v (p.map chC)) : PureX Try.prog 23 [v, u8 c] w (OneR p c I) := by
  have hpl := List.length_pos_iff.2 hp0
  have hvw := hv.mono hI
  have hd1 := hv.dropM (l := 1) rfl hpl
  refine enter Try.func23 rfl Try.ntmps23 rfl (St.start w (look w) (Le.refl _)) ?_
  refine t_seq ?_
  refine t_region ?_
  refine l_q rfl rfl rfl (q_assign rfl rfl) ?_
  refine l_q rfl rfl rfl (q_assign rfl rfl) ?_
  refine l_nil ?_
  refine n_then ?_
  refine t_seq ?_
  refine t_block ?_
  refine t_seq ?_
  refine t_region ?_
  refine l_q rfl rfl rfl (q_move rfl rfl) ?_
  refine l_q rfl rfl rfl (quiet_call rfl rfl rfl Try.func22 (by kernel_rfl) rfl ((fun w hw => starts_pure v p [63] w (by omega) (by decide) (hv.mono (hI.trans (Le.of_st hw)))))) ?_
  refine l_q rfl rfl rfl (q_assign rfl rfl) ?_
  refine l_nil ?_
  refine n_then ?_
  refine t_cond rfl (fun hc0 => ?_) (fun hc0 => ?_)
  · skip
    refine t_seq ?_
    refine t_qdraw mo (by kernel_rfl) (fun _ _ _ _ _ h => h) ?_
    refine s_q rfl rfl rfl (q_move rfl rfl) ?_
    refine s_q rfl rfl rfl ((by first | exact q_slice_from rfl Try.underlying22 ti29 rfl rfl (Sl.lenOf hv (List.length_map _)) (by omega))) ?_
    refine s_q rfl rfl rfl (q_assign rfl rfl) ?_
    refine s_q rfl rfl rfl (q_assign rfl rfl) ?_
    refine s_done ?_
    refine n_then ?_
    refine t_ret ?_
    refine n_ret_block ?_
    refine n_ret_then ?_
    refine n_ret2 rfl rfl rfl (fun w' hw => ?_)
    -- leaf 0
    refine ⟨_, rfl, ?_, hw.below⟩
    have h1 : oneP p c = (true, p.drop 1) := by rw [oneP, if_pos hc0]
    exact ⟨_, by rw [h1], by rw [h1]; exact hd1⟩
  · skip
    refine t_seq ?_
    refine t_region ?_
    refine l_q rfl rfl rfl (q_move rfl rfl) ?_
    refine l_q rfl rfl rfl (quiet_call rfl rfl rfl Try.func22 (by kernel_rfl) rfl ((fun w hw => starts_pure v p [91] w (by omega) (by decide) (hv.mono (hI.trans (Le.of_st hw)))))) ?_
    refine l_q rfl rfl rfl (q_assign rfl rfl) ?_
    refine l_nil ?_
    refine n_then ?_
    refine t_cond rfl (fun hc1 => ?_) (fun hc1 => ?_)
    · skip
      refine t_seq ?_
      refine t_region ?_
      refine l_q rfl rfl rfl (q_move rfl rfl) ?_
      refine l_q rfl rfl rfl (q_move rfl rfl) ?_
      refine l_e rfl rfl rfl (eff_callX rfl rfl rfl Try.func30 (by kernel_rfl) rfl (fun w hw => bracket_X v p c I w (hI.trans (Le.of_st hw)) hp hp0 hv)) ?_
      rintro _ _ _ ⟨⟨fo, vr, ok, rfl, hbr⟩, rfl, rfl⟩
      refine l_q rfl rfl rfl (q_move rfl rfl) ?_
      refine l_q rfl rfl rfl (q_extract rfl rfl rfl) ?_
      refine l_q rfl rfl rfl (q_extract rfl rfl rfl) ?_
      refine l_q rfl rfl rfl (q_extract rfl rfl rfl) ?_
      refine l_q rfl rfl rfl (q_assign rfl rfl) ?_
      refine l_q rfl rfl rfl (q_assign rfl rfl) ?_
      refine l_q rfl rfl rfl (q_assign rfl rfl) ?_
      refine l_nil ?_
      refine n_then ?_
      refine t_seq ?_
      refine t_region ?_
      refine l_q rfl rfl rfl (q_move rfl rfl) ?_
      refine l_nil ?_
      refine n_then ?_
      refine t_cond rfl (fun hc2 => ?_) (fun hc2 => ?_)
      · skip
        refine t_seq ?_
        refine t_region ?_
        refine l_q rfl rfl rfl (q_move rfl rfl) ?_
        refine l_q rfl rfl rfl (q_move rfl rfl) ?_
        refine l_q rfl rfl rfl (q_assign rfl rfl) ?_
        refine l_q rfl rfl rfl (q_assign rfl rfl) ?_
        refine l_nil ?_
        refine n_then ?_
        refine t_ret ?_
        refine n_ret_block ?_
        refine n_ret_then ?_
        refine n_ret2 rfl rfl rfl (fun w' hw => ?_)
        -- leaf 1
        refine ⟨_, rfl, ?_, hw.below⟩
        rcases hbr with ⟨_, b, hb, hsl⟩ | ⟨h, _⟩
        · have h1 : oneP p c = (fo, b) := by rw [oneP, if_neg (by rw [hc0]; simp), if_pos hc1, hb]
          exact ⟨vr, by rw [h1]; rfl, by rw [h1]; exact hsl⟩
        · rw [h] at hc2; cases hc2
      · skip
        refine t_skip ?_
        refine n_block ?_
        refine n_then ?_
        refine t_seq ?_
        refine t_qdraw mo (by kernel_rfl) (fun _ _ _ _ _ h => h) ?_
        refine s_q rfl rfl rfl (q_move rfl rfl) ?_
        refine s_q rfl rfl rfl ((by first | exact q_indexAddrVN rfl Try.underlying22 ti29 rfl rfl (by omega) | exact q_indexAddrN rfl Try.underlying22 ti29 rfl rfl (Sl.shape hv (List.length_map _)) (by omega) | exact q_indexAddrV rfl Try.underlying22 ti29 rfl rfl (by omega) | exact q_indexAddr rfl Try.underlying22 ti29 rfl rfl (Sl.shape hv (List.length_map _)) (by omega))) ?_
        refine s_q rfl rfl rfl (q_fieldAddr rfl Try.underlying29 rfl rfl ti5 rfl rfl) ?_
        refine s_q rfl rfl rfl ((by first | exact q_load_row rfl Try.underlying5 rfl rfl (by rfl) | exact q_load rfl Try.underlying5 rfl rfl (rd_ch_b0 (i := 0) hvw (by omega)))) ?_
        refine s_q rfl rfl rfl (q_move rfl rfl) ?_
        refine s_q rfl rfl rfl (q_eql_u8 rfl rfl rfl) ?_
        refine s_q rfl rfl rfl (q_move rfl rfl) ?_
        refine s_q rfl rfl rfl ((by first | exact q_slice_from rfl Try.underlying22 ti29 rfl rfl (Sl.lenOf hv (List.length_map _)) (by omega))) ?_
        refine s_q rfl rfl rfl (q_assign rfl rfl) ?_
        refine s_q rfl rfl rfl (q_assign rfl rfl) ?_
        refine s_done ?_
        refine n_then ?_
        refine t_ret ?_
        refine n_ret2 rfl rfl rfl (fun w' hw => ?_)
        -- leaf 2
        refine ⟨_, rfl, ?_, hw.below⟩
        rcases hbr with ⟨h, _⟩ | ⟨_, hb⟩
        · rw [h] at hc2; cases hc2
        · have h1 : oneP p c = (decide ((nth p 0 ch0).b = c), p.drop 1) := by rw [oneP, if_neg (by rw [hc0]; simp), if_pos hc1, hb]
          exact ⟨cutV 2 1 p.length v, by rw [h1]; rfl, by rw [h1]; exact hd1⟩
    · skip
      refine t_skip ?_
      refine n_block ?_
      refine n_then ?_
      refine t_seq ?_
      refine t_qdraw mo (by kernel_rfl) (fun _ _ _ _ _ h => h) ?_
      refine s_q rfl rfl rfl (q_move rfl rfl) ?_
      refine s_q rfl rfl rfl ((by first | exact q_indexAddrVN rfl Try.underlying22 ti29 rfl rfl (by omega) | exact q_indexAddrN rfl Try.underlying22 ti29 rfl rfl (Sl.shape hv (List.length_map _)) (by omega) | exact q_indexAddrV rfl Try.underlying22 ti29 rfl rfl (by omega) | exact q_indexAddr rfl Try.underlying22 ti29 rfl rfl (Sl.shape hv (List.length_map _)) (by omega))) ?_
      refine s_q rfl rfl rfl (q_fieldAddr rfl Try.underlying29 rfl rfl ti5 rfl rfl) ?_
      refine s_q rfl rfl rfl ((by first | exact q_load_row rfl Try.underlying5 rfl rfl (by rfl) | exact q_load rfl Try.underlying5 rfl rfl (rd_ch_b0 (i := 0) hvw (by omega)))) ?_
      refine s_q rfl rfl rfl (q_move rfl rfl) ?_
      refine s_q rfl rfl rfl (q_eql_u8 rfl rfl rfl) ?_
      refine s_q rfl rfl rfl (q_move rfl rfl) ?_
      refine s_q rfl rfl rfl ((by first | exact q_slice_from rfl Try.underlying22 ti29 rfl rfl (Sl.lenOf hv (List.length_map _)) (by omega))) ?_
      refine s_q rfl rfl rfl (q_assign rfl rfl) ?_
      refine s_q rfl rfl rfl (q_assign rfl rfl) ?_
      refine s_done ?_
      refine n_then ?_
      refine t_ret ?_
      refine n_ret2 rfl rfl rfl (fun w' hw => ?_)
      -- leaf 3
      refine ⟨_, rfl, ?_, hw.below⟩
      have h1 : oneP p c = (decide ((nth p 0 ch0).b = c), p.drop 1) := by rw [oneP, if_neg (by rw [hc0]; simp), if_neg (by rw [hc1]; simp)]
      exact ⟨cutV 2 1 p.length v, by rw [h1]; rfl, by rw [h1]; exact hd1⟩
set_option maxRecDepth 10000 in
theorem match_pure (v : Value) (p : List Ch) (s0 : List UInt8) (w : World) (hp : p.length ≤ 4611686018427387904) (hs : s0.length ≤ 4611686018427387904) (hv : Sl (look w) 2 v (p.map chC)) : Pure Try.prog 12 [v, str s0] w (.bool (Mt p s0)) := by
  refine enter Try.func12 rfl Try.ntmps12 rfl (St.start w (look w) (Le.refl _)) ?_
  refine t_seq ?_
  refine t_region ?_
  refine l_q rfl rfl rfl (q_assign rfl rfl) ?_
  refine l_nil ?_
  refine n_then ?_
  refine t_seq ?_
  refine t_region ?_
  refine l_q rfl rfl rfl (q_assign rfl rfl) ?_
  refine l_nil ?_
  refine n_then ?_
  refine t_seq ?_
  refine t_region ?_
  refine l_q rfl rfl rfl (q_assign rfl rfl) ?_
  refine l_q rfl rfl rfl (q_assign rfl rfl) ?_
  refine l_nil ?_
  refine n_then ?_
  refine t_seq ?_
  refine t_block ?_
  refine t_loopE (ι := List Ch × Value × List UInt8 × List Ch × Value × List UInt8 × Bool) (fun zz => MInv p s0 zz.2.2.2.2.2.2 zz.2.2.2.1 zz.2.2.2.2.2.1 zz.1 zz.2.2.1 ∧ Sl (look w) 2 zz.2.1 (zz.1.map chC) ∧ (zz.2.2.2.2.2.2 = true → Sl (look w) 2 zz.2.2.2.2.1 (zz.2.2.2.1.map chC)) ∧ zz.1.length ≤ p.length ∧ zz.2.2.2.1.length ≤ p.length ∧ zz.2.2.1.length ≤ s0.length ∧ zz.2.2.2.2.2.1.length ≤ s0.length ∧ (zz.2.2.2.2.2.2 = true → zz.2.2.1.length ≤ zz.2.2.2.2.2.1.length)) (fun zz => (if zz.2.2.2.2.2.2 then zz.2.2.2.2.2.1.length else s0.length + 1) * (p.length + s0.length + 1) + (zz.1.length + zz.2.2.1.length)) (fun zz => [(0, zz.2.1), (1, str zz.2.2.1), (5, zz.2.2.2.2.1), (6, str zz.2.2.2.2.2.1), (7, .bool zz.2.2.2.2.2.2)]) [] (fun zz => look w) (fun zz => []) (p, v, s0, [], .slice none 0 0, [], false) ?_ (sub_cons rfl (sub_cons rfl (sub_cons rfl (sub_cons rfl (sub_cons rfl sub_nil))))) (sub_nil) (fun _ h => subC_st h) ?_
  · try dsimp only
    exact ⟨MInv.start p s0, hv, (fun h => by cases h), Nat.le_refl _, Nat.zero_le _, Nat.le_refl _, Nat.zero_le _, fun h => by cases h⟩
  rintro ⟨q, vq, s, ag, va, fr, star⟩ ⟨hm, hvq, hva, hq, hag, hsl, hfr, hsf⟩
  try dsimp only at *
  refine t_seq ?_
  refine t_seq ?_
  refine t_qreg ?_
  refine s_q rfl rfl rfl (q_move rfl rfl) ?_
  refine s_q rfl rfl rfl (q_neq_str rfl rfl rfl) ?_
  refine s_q rfl rfl rfl (q_move rfl rfl) ?_
  refine s_or2 3 2 12 16 15 _ _ rfl rfl rfl rfl rfl rfl (fun h16 => by
      try simp at h16
      refine s_g rfl rfl rfl rfl rfl rfl (q_move rfl rfl) ?_
      refine s_g rfl rfl rfl rfl rfl rfl ((by first | exact q_lenV rfl Try.underlying22 rfl | exact q_len rfl Try.underlying22 rfl (Sl.lenOf hvq (List.length_map _)))) ?_
      refine s_g rfl rfl rfl rfl rfl rfl (q_gtr rfl rfl rfl) ?_
      exact s_val rfl
    ) (wanted_n rfl) rfl rfl rfl ?_
  refine s_done ?_
  refine n_then ?_
  refine t_cond rfl (fun hc0 => ?_) (fun hc0 => ?_)
  · skip
    have h0 : (decide (s ≠ []) || decide ((0 : Int) < (q.length : Int))) = true := hc0
    have hne : ¬ (q = [] ∧ s = []) := by rintro ⟨rfl, rfl⟩; simp at h0
    refine t_skip ?_
    refine n_then ?_
    refine t_block ?_
    refine t_seq ?_
    refine t_seq ?_
    refine t_region ?_
    refine l_q rfl rfl rfl (q_move rfl rfl) ?_
    refine l_q rfl rfl rfl (quiet_call rfl rfl rfl Try.func22 (by kernel_rfl) rfl ((fun w hw => starts_pure vq q [42] w (by omega) (by decide) (hvq.mono (Le.of_st hw))))) ?_
    refine l_nil ?_
    refine n_then ?_
    refine t_cond rfl (fun hc1 => ?_) (fun hc1 => ?_)
    · skip
      have hqn : q ≠ [] := startsP_ne hc1
      have hq1 := List.length_pos_iff.2 hqn
      have hd1 := hvq.dropM (l := 1) rfl hq1
      refine t_seq ?_
      refine t_region ?_
      refine l_q rfl rfl rfl (q_move rfl rfl) ?_
      refine l_q rfl rfl rfl ((by first | exact q_slice_from rfl Try.underlying22 ti29 rfl rfl (Sl.lenOf hvq (List.length_map _)) (by omega))) ?_
      refine l_q rfl rfl rfl (q_assign rfl rfl) ?_
      refine l_nil ?_
      refine n_then ?_
      refine t_seq ?_
      refine t_region ?_
      refine l_q rfl rfl rfl (q_move rfl rfl) ?_
      refine l_q rfl rfl rfl (q_move rfl rfl) ?_
      refine l_q rfl rfl rfl (q_assign rfl rfl) ?_
      refine l_q rfl rfl rfl (q_assign rfl rfl) ?_
      refine l_q rfl rfl rfl (q_assign rfl rfl) ?_
      refine l_nil ?_
      refine n_then ?_
      refine t_exit ?_
      refine n_exit_then ?_
      refine n_exit_block ?_
      refine n_roundE ((q.drop 1, cutV 2 1 q.length vq, s, q.drop 1, cutV 2 1 q.length vq, s, true)) ?_ ?_ (sub_cons rfl (sub_cons rfl (sub_cons rfl (sub_cons rfl (sub_cons rfl sub_nil))))) (sub_nil) (fun _ h => by try dsimp only; exact subC_st h)
      · try dsimp only
        exact ⟨hm.star hc1, hd1, fun _ => hd1, by rw [List.length_drop]; omega, by rw [List.length_drop]; omega, hsl, hsl, fun _ => Nat.le_refl _⟩
      · try dsimp only
        rw [if_pos rfl, List.length_drop]
        refine Nat.lt_of_lt_of_le (Nat.add_lt_add_left (show q.length - 1 + s.length < q.length + s.length by omega) _) (Nat.add_le_add_right (Nat.mul_le_mul_right _ ?_) _)
        split
        · exact hsf ‹_›
        · omega
    · skip
      refine t_skip ?_
      refine n_then ?_
      refine t_cutE (ι := Unit) (fun zz => (q ≠ [] → s ≠ [] → (oneP q (nth s 0 0)).1 = false)) (fun zz => []) [(5, _), (6, _), (7, _), (16, _), (18, _)] (fun zz => look w) (fun zz => []) (sub_cons rfl (sub_cons rfl (sub_cons rfl (sub_cons rfl (sub_cons rfl sub_nil))))) ?_ ?_
      · skip
        refine t_seq ?_
        refine t_qreg ?_
        refine s_q rfl rfl rfl (q_move rfl rfl) ?_
        refine s_q rfl rfl rfl ((by first | exact q_lenV rfl Try.underlying22 rfl | exact q_len rfl Try.underlying22 rfl (Sl.lenOf hvq (List.length_map _)))) ?_
        refine s_q rfl rfl rfl (q_gtr rfl rfl rfl) ?_
        refine s_q rfl rfl rfl (q_move rfl rfl) ?_
        refine s_and2 2 3 26 29 28 _ _ rfl rfl rfl rfl rfl rfl (fun h29 => by
            try simp at h29
            refine s_g rfl rfl rfl rfl rfl rfl (q_move rfl rfl) ?_
            refine s_g rfl rfl rfl rfl rfl rfl (q_neq_str rfl rfl rfl) ?_
            exact s_val rfl
          ) (wanted_n rfl) rfl rfl rfl ?_
        refine s_done ?_
        refine n_then ?_
        refine t_cond rfl (fun hc2 => ?_) (fun hc2 => ?_)
        · skip
          have h2 : (decide ((0 : Int) < (q.length : Int)) && decide (s ≠ [])) = true := hc2
          rw [Bool.and_eq_true, decide_eq_true_eq, decide_eq_true_eq] at h2
          have hqn : q ≠ [] := List.ne_nil_of_length_pos (by omega)
          have hsn := h2.2
          have hs1 := List.length_pos_iff.2 hsn
          have hol := oneP_len hqn (nth s 0 0)
          refine t_seq ?_
          refine t_region ?_
          refine l_q rfl rfl rfl (q_move rfl rfl) ?_
          refine l_q rfl rfl rfl (q_move rfl rfl) ?_
          refine l_q rfl rfl rfl ((by first | exact q_index_strN rfl Try.underlying9 rfl rfl (by omega) | exact q_index_str rfl Try.underlying9 rfl rfl (by omega))) ?_
          refine l_e rfl rfl rfl (eff_callX rfl rfl rfl Try.func23 (by kernel_rfl) rfl (fun w hw => one_X vq q (nth s 0 0) _ w (Le.of_st hw) (by omega) hqn hvq)) ?_
          rintro _ _ _ ⟨⟨vr, rfl, hvr⟩, rfl, rfl⟩
          refine l_q rfl rfl rfl (q_move rfl rfl) ?_
          refine l_q rfl rfl rfl (q_extract rfl rfl rfl) ?_
          refine l_q rfl rfl rfl (q_extract rfl rfl rfl) ?_
          refine l_q rfl rfl rfl (q_assign rfl rfl) ?_
          refine l_q rfl rfl rfl (q_assign rfl rfl) ?_
          refine l_nil ?_
          refine n_then ?_
          refine t_seq ?_
          refine t_region ?_
          refine l_q rfl rfl rfl (q_move rfl rfl) ?_
          refine l_nil ?_
          refine n_then ?_
          refine t_cond rfl (fun hc3 => ?_) (fun hc3 => ?_)
          · skip
            refine t_seq ?_
            refine t_qdraw mo (by kernel_rfl) (fun _ _ _ _ _ h => h) ?_
            refine s_q rfl rfl rfl (q_move rfl rfl) ?_
            refine s_q rfl rfl rfl (q_move rfl rfl) ?_
            refine s_q rfl rfl rfl (q_slice_str_from rfl Try.underlying9 rfl rfl (by omega)) ?_
            refine s_q rfl rfl rfl (q_assign rfl rfl) ?_
            refine s_q rfl rfl rfl (q_assign rfl rfl) ?_
            refine s_done ?_
            refine n_then ?_
            refine t_exit ?_
            refine n_exit_then ?_
            refine n_exit_block ?_
            refine n_roundE (((oneP q (nth s 0 0)).2, vr, s.drop 1, ag, va, fr, star)) ?_ ?_ (sub_cons rfl (sub_cons rfl (sub_cons rfl (sub_cons rfl (sub_cons rfl sub_nil))))) (sub_nil) (fun _ h => by try dsimp only; exact subC_st h)
            · try dsimp only
              exact ⟨hm.one hqn hc1 hsn hc3, hvr, hva, by omega, hag, by rw [List.length_drop]; omega, hfr, fun h => by have := hsf h; rw [List.length_drop]; omega⟩
            · try dsimp only
              refine Nat.add_lt_add_left ?_ _
              rw [List.length_drop]; omega
          · skip
            refine t_skip ?_
            refine n_cut (()) ?_ (sub_nil) (sub_cons rfl (sub_cons rfl (sub_cons rfl (sub_cons rfl (sub_cons rfl sub_nil))))) (fun _ h => by try dsimp only; exact subC_st h)
            · try dsimp only
              exact fun _ _ => hc3
        · skip
          refine t_skip ?_
          refine n_cut (()) ?_ (sub_nil) (sub_cons rfl (sub_cons rfl (sub_cons rfl (sub_cons rfl (sub_cons rfl sub_nil))))) (fun _ h => by try dsimp only; exact subC_st h)
          · try dsimp only
            intro h1 h2
            exfalso
            have h3 := List.length_pos_iff.2 h1
            have h : (decide ((0 : Int) < (q.length : Int)) && decide (s ≠ [])) = false := hc2
            simp [h2] at h
            exact h1 h
      rintro u hno
      try dsimp only at *
      refine t_seq ?_
      refine t_seq ?_
      refine t_qreg ?_
      refine s_q rfl rfl rfl (q_move rfl rfl) ?_
      refine s_q rfl rfl rfl (q_not rfl rfl) ?_
      refine s_q rfl rfl rfl (q_move rfl rfl) ?_
      refine s_or2 2 2 43 46 45 _ _ rfl rfl rfl rfl rfl rfl (fun h46 => by
          try simp at h46
          refine s_g rfl rfl rfl rfl rfl rfl (q_move rfl rfl) ?_
          refine s_g rfl rfl rfl rfl rfl rfl (q_eql_str rfl rfl rfl) ?_
          exact s_val rfl
        ) (wanted_n rfl) rfl rfl rfl ?_
      refine s_done ?_
      refine n_then ?_
      refine t_cond rfl (fun hc4 => ?_) (fun hc4 => ?_)
      · skip
        have h4 : (!star || decide (fr = [])) = true := hc4
        have hstk := Mt_stuck hne hc1 hno
        refine t_seq ?_
        refine t_region ?_
        refine l_q rfl rfl rfl (q_assign rfl rfl) ?_
        refine l_nil ?_
        refine n_then ?_
        refine t_ret ?_
        refine n_ret_then ?_
        refine n_ret_block ?_
        refine n_ret_then ?_
        refine n_ret_block ?_
        refine n_ret_then ?_
        refine n_ret1 rfl rfl (fun w' hw => ?_)
        -- leaf 0
        refine ⟨?_, hw.below⟩
        rw [hm.fail hstk (by simpa using h4)]
      · skip
        have h4 : (!star || decide (fr = [])) = false := hc4
        simp at h4
        have hst2 := h4.1
        have hfn := h4.2
        have hf1 := List.length_pos_iff.2 hfn
        have hstk := Mt_stuck hne hc1 hno
        refine t_skip ?_
        refine n_then ?_
        refine t_seq ?_
        refine t_region ?_
        refine l_q rfl rfl rfl (q_move rfl rfl) ?_
        refine l_q rfl rfl rfl (q_slice_str_from rfl Try.underlying9 rfl rfl (by omega)) ?_
        refine l_q rfl rfl rfl (q_assign rfl rfl) ?_
        refine l_nil ?_
        refine n_then ?_
        refine t_region ?_
        refine l_q rfl rfl rfl (q_move rfl rfl) ?_
        refine l_q rfl rfl rfl (q_move rfl rfl) ?_
        refine l_q rfl rfl rfl (q_assign rfl rfl) ?_
        refine l_q rfl rfl rfl (q_assign rfl rfl) ?_
        refine l_nil ?_
        refine n_block ?_
        refine n_roundE ((ag, va, fr.drop 1, ag, va, fr.drop 1, star)) ?_ ?_ (sub_cons rfl (sub_cons rfl (sub_cons rfl (sub_cons rfl (sub_cons rfl sub_nil))))) (sub_nil) (fun _ h => by try dsimp only; exact subC_st h)
        · try dsimp only
          exact ⟨(hst2 ▸ hm).back hstk hfn |> (hst2 ▸ ·), hva hst2, hva, hag, hag, by rw [List.length_drop]; omega, by rw [List.length_drop]; omega, fun _ => Nat.le_refl _⟩
        · try dsimp only
          rw [hst2, if_pos rfl, if_pos rfl, List.length_drop]
          exact mu_step (by have := List.length_pos_iff.2 hfn; omega) hag (by omega) _ (Nat.zero_le _)
  · skip
    have h0 : (decide (s ≠ []) || decide ((0 : Int) < (q.length : Int))) = false := hc0
    simp at h0
    refine t_exit ?_
    refine n_exit_then ?_
    refine n_exit_then ?_
    refine n_exit_block ?_
    refine n_then ?_
    refine t_seq ?_
    refine t_region ?_
    refine l_q rfl rfl rfl (q_assign rfl rfl) ?_
    refine l_nil ?_
    refine n_then ?_
    refine t_ret ?_
    refine n_ret1 rfl rfl (fun w' hw => ?_)
    -- leaf 1
    refine ⟨?_, hw.below⟩
    obtain ⟨rfl, rfl⟩ := h0
    rw [hm.done rfl]
end Go.Tri
