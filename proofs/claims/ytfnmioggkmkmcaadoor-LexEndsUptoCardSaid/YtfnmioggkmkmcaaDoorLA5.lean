/-
  A scanner: tokens.
-/
import Derived.Test.YtfnmioggkmkmcaaDoorLA4
namespace Go.Tri
open Go.Proofs Go.RowKit
theorem TRel.on {i j : Nat} {r : TR} {t : Tok} {ok : Bool} {i' a' e' : Nat} (h : TRel j r t ok i' a' e') (hij : i ≤ j) : TRel i (r.on (j - i)) t ok i' a' e' := by
  cases r with
  | stop k => exact ⟨h.1, h.2.1, by rw [h.2.2.1]; omega, h.2.2.2⟩
  | tok off k kind text => exact ⟨by rw [h.1]; congr 1; omega, h.2.1, by rw [h.2.2.1]; omega, h.2.2.2⟩
  | bad a e => exact ⟨h.1, h.2.1, by rw [h.2.2.1]; omega, h.2.2.2⟩
theorem blank_esc {l : List UInt8} (h : stB l [92, 10] = true) : blankN l = 2 := by rw [blankN, if_pos h]
theorem blank_one {s : List UInt8} {j : Nat} (h : stB (s.drop j) [92, 10] = false) (h2 : (decide (nth s j 0 = 32) || decide (nth s j 0 = 9)) = true) : blankN (s.drop j) = 1 := by
  rw [blankN, if_neg (by rw [h]; simp), nth_drop_head, if_pos h2]
theorem blank_rem {s : List UInt8} {j : Nat} (h : stB (s.drop j) [92, 10] = false) (h2 : (decide (nth s j 0 = 32) || decide (nth s j 0 = 9)) = false) (h3 : nth s j 0 = 35) : blankN (s.drop j) = remark (s.drop j) := by
  rw [blankN, if_neg (by rw [h]; simp), nth_drop_head, if_neg (by rw [h2]; simp), if_pos h3]
theorem blank_no {s : List UInt8} {j : Nat} (h : stB (s.drop j) [92, 10] = false) (h2 : (decide (nth s j 0 = 32) || decide (nth s j 0 = 9)) = false) (h3 : ¬ nth s j 0 = 35) : blankN (s.drop j) = 0 := by
  rw [blankN, if_neg (by rw [h]; simp), nth_drop_head, if_neg (by rw [h2]; simp), if_neg h3]
set_option maxRecDepth 10000 in
theorem token_calls (b : Nat) (s : List UInt8) (i : Nat) (I : Look) (F : List HA) (w0 w : World) (hs : s.length ≤ 2305843009213693952) (hi : i ≤ s.length) (hG : EnvI I) (hw0 : St w0 I (row b 51 (scC s i 0 0) :: F) w) : TokC 16 51 b s i [] (tokP (s.drop i)) I F w := by
  refine enter Tryd.func16 rfl Tryd.ntmps16 rfl (hw0.self) ?_
  refine t_seq ?_
  refine t_region ?_
  refine l_e rfl rfl rfl (e_alloc rfl ti28 rfl) ?_
  rintro _ _ _ ⟨b2, rfl, rfl, rfl⟩
  refine l_heap (H' := row b2 28 (tokC tok0) :: _) ?_ (fun _ h => h)
  refine l_q rfl rfl rfl (q_assign rfl rfl) ?_
  refine l_nil ?_
  refine n_then ?_
  refine t_scopeE (ι := Nat × Nat) 0 rfl rfl (fun zz => i ≤ zz.1 ∧ zz.1 ≤ s.length ∧ tokP (s.drop i) = (tokL zz.2 (s.drop zz.1)).on (zz.1 - i) ∧ (s.drop zz.1).length < zz.2) (fun zz => s.length - zz.1) (fun zz => []) [(0, _), (2, _)] (fun zz => I) (fun zz => (row b2 28 (tokC tok0) :: row b 51 (scC s zz.1 0 0) :: F)) (i, (s.drop i).length + 1) ?_ (sub_nil) (sub_cons rfl (sub_cons rfl sub_nil)) (fun _ h => subC_st h) ?_ ?_
  · try dsimp only
    exact ⟨Nat.le_refl _, hi, by rw [Nat.sub_self, TR.on_zero]; rfl, Nat.lt_succ_self _⟩
  all_goals (
    rintro ⟨j, g⟩ ⟨hj1, hj2, hx, hfl⟩
    try dsimp only at *
    have hstep := tok_step hx hfl
    refine t_seq ?_
    first | refine t_label ?_ | refine t_skip ?_
    refine n_then ?_
    refine t_seq ?_
    refine t_seq ?_
    refine t_qdraw mo (by kernel_rfl) (fun _ _ _ _ _ h => h) ?_
    refine s_q rfl rfl rfl (q_move rfl rfl) ?_
    refine s_q rfl rfl rfl (q_nilCheck rfl rfl) ?_
    refine s_q rfl rfl rfl (q_fieldAddr rfl Tryd.underlying51 rfl rfl ti3 rfl rfl) ?_
    refine s_q rfl rfl rfl (q_load_row rfl Tryd.underlying3 rfl rfl (by rfl)) ?_
    refine s_q rfl rfl rfl (q_move rfl rfl) ?_
    refine s_q rfl rfl rfl (q_nilCheck rfl rfl) ?_
    refine s_q rfl rfl rfl (q_fieldAddr rfl Tryd.underlying51 rfl rfl ti9 rfl rfl) ?_
    refine s_q rfl rfl rfl (q_load_row rfl Tryd.underlying9 rfl rfl (by rfl)) ?_
    refine s_q rfl rfl rfl (q_len_str rfl Tryd.underlying9 rfl) ?_
    refine s_q rfl rfl rfl (q_eql rfl rfl rfl) ?_
    refine s_done ?_
    refine n_then ?_
    refine t_cond rfl (fun hc0 => ?_) (fun hc0 => ?_)
    · skip
      try simp at hc0
      obtain rfl : j = s.length := by omega
      have hend := hstep.1 (List.drop_length)
      refine t_seq ?_
      refine t_region ?_
      refine l_q rfl rfl rfl (q_build (pl := [(_, _), (_, _), (_, _), (_, _), (_, _)]) (cs := (tokC tok0).toArray) rfl Tryd.underlying28 ti28 ⟨rfl, ⟨_, _, ti3⟩, rfl, ⟨_, _, ti9⟩, rfl, ⟨_, _, ti3⟩, rfl, ⟨_, _, ti9⟩, rfl, ⟨_, _, ti4⟩, trivial⟩ rfl rfl) ?_
      refine l_e0 rfl rfl ((by first | exact e_store_all rfl ti28 rfl rfl rfl (by first | exact chC_ones _ | exact pcC_ones _ | exact tokC_ones _ | simp [Value.oneCell', str, u8]) rfl | exact e_store_agg rfl ti28 rfl rfl rfl (by first | exact chC_ones _ | exact pcC_ones _ | exact tokC_ones _ | simp [Value.oneCell', str, u8]) rfl)) ?_
      rintro _ _ _ ⟨rfl, rfl⟩
      refine l_q rfl rfl rfl (q_assign rfl rfl) ?_
      refine l_nil ?_
      refine n_then ?_
      refine t_ret ?_
      refine n_ret_then ?_
      refine n_ret_jump ?_
      refine n_retGG (.inl rfl) rfl (by exact rg_row rfl Tryd.underlying28 ti28 rfl rfl (rg_tmp rfl (rg_nil))) (fun w' hw => ?_)
      -- leaf 0
      exact ⟨_, rfl, I, _, ⟨rfl, tok0, false, s.length, 0, 0, rfl, (by rw [hend]; exact ⟨rfl, rfl, (by omega), rfl, rfl⟩), (Nat.le_refl _), rfl⟩, subC_st hw⟩
    · skip
      try simp at hc0
      have hj : j < s.length := by omega
      have hst := hstep.2 (drop_ne hj)
      refine t_skip ?_
      refine n_then ?_
      refine t_seq ?_
      refine t_region ?_
      refine l_q rfl rfl rfl (q_move rfl rfl) ?_
      refine l_q rfl rfl rfl (q_nilCheck rfl rfl) ?_
      refine l_q rfl rfl rfl (q_fieldAddr rfl Tryd.underlying51 rfl rfl ti3 rfl rfl) ?_
      refine l_q rfl rfl rfl (q_load_row rfl Tryd.underlying3 rfl rfl (by rfl)) ?_
      refine l_q rfl rfl rfl (q_assign rfl rfl) ?_
      refine l_nil ?_
      refine n_then ?_
      refine t_seq ?_
      refine t_seq ?_
      refine t_region ?_
      refine l_q rfl rfl rfl (q_move rfl rfl) ?_
      refine l_q rfl rfl rfl (q_nilCheck rfl rfl) ?_
      refine l_q rfl rfl rfl (q_fieldAddr rfl Tryd.underlying51 rfl rfl ti9 rfl rfl) ?_
      refine l_q rfl rfl rfl (q_load_row rfl Tryd.underlying9 rfl rfl (by rfl)) ?_
      refine l_q rfl rfl rfl (q_move rfl rfl) ?_
      refine l_q rfl rfl rfl ((by first | exact q_index_strN rfl Tryd.underlying9 rfl rfl (by omega) | exact q_index_str rfl Tryd.underlying9 rfl rfl (by omega))) ?_
      refine l_q rfl rfl rfl (q_assign rfl rfl) ?_
      refine l_nil ?_
      refine n_then ?_
      refine t_block ?_
      refine t_seq ?_
      refine t_region ?_
      refine l_q rfl rfl rfl (q_move rfl rfl) ?_
      refine l_q rfl rfl rfl (quiet_call rfl rfl rfl Tryd.func23 (by kernel_rfl) rfl ((fun w hw => starts_pure b s [92, 10] j 0 0 w (by omega) (rowed_of hw)))) ?_
      refine l_q rfl rfl rfl (q_assign rfl rfl) ?_
      refine l_nil ?_
      refine n_then ?_
      refine t_cond rfl (fun hc1 => ?_) (fun hc1 => ?_)
      · skip
        have hl2 := stB_len hc1
        rw [List.length_drop] at hl2
        replace hl2 : 2 ≤ s.length - j := hl2
        refine t_seq ?_
        refine t_region ?_
        refine l_q rfl rfl rfl (q_move rfl rfl) ?_
        refine l_e rfl rfl rfl (eff_call rfl rfl rfl Tryd.func35 (by kernel_rfl) rfl (fun w hw => skip_calls b s j 2 0 0 _ _ _ w (by omega) hs (by omega) (picks_st1 (row b 51 (scC s j 0 0)) hw))) ?_
        rintro _ _ _ ⟨rfl, rfl, rfl⟩
        refine l_nil ?_
        refine n_then ?_
        refine t_goto ?_
        refine n_goto_block ?_
        refine n_goto_then ?_
        have hb9 : blankN (s.drop j) = 2 := blank_esc hc1
        have h3 := hst.2 _ hb9 (by omega)
        rw [List.drop_drop] at h3
        refine n_gotoE ((j + 2, g - 1)) ?_ ?_ (sub_nil) (sub_cons rfl (sub_cons rfl sub_nil)) (fun _ h => by dsimp only; rw [show min (j + 2) s.length = j + 2 by omega] at h; exact subC_st h)
        · try dsimp only
          refine ⟨by omega, by omega, by rw [h3]; congr 1; omega, ?_⟩
          rw [List.length_drop] at hfl ⊢
          omega
        · try dsimp only
          show s.length - (j + 2) < s.length - j
          omega
      · skip
        refine t_seq ?_
        refine t_qreg ?_
        refine s_q rfl rfl rfl (q_move rfl rfl) ?_
        refine s_q rfl rfl rfl (q_eql_u8c rfl rfl rfl rfl) ?_
        refine s_q rfl rfl rfl (q_move rfl rfl) ?_
        refine s_or2 2 2 37 40 39 _ _ rfl rfl rfl rfl rfl rfl (fun h40 => by
            try simp at h40
            refine s_g rfl rfl rfl rfl rfl rfl (q_move rfl rfl) ?_
            refine s_g rfl rfl rfl rfl rfl rfl (q_eql_u8c rfl rfl rfl rfl) ?_
            exact s_val rfl
          ) (wanted_n rfl) rfl rfl rfl ?_
        refine s_q rfl rfl rfl (q_assign rfl rfl) ?_
        refine s_done ?_
        refine n_then ?_
        refine t_cond rfl (fun hc2 => ?_) (fun hc2 => ?_)
        · skip
          refine t_seq ?_
          refine t_region ?_
          refine l_q rfl rfl rfl (q_move rfl rfl) ?_
          refine l_e rfl rfl rfl (eff_call rfl rfl rfl Tryd.func35 (by kernel_rfl) rfl (fun w hw => skip_calls b s j 1 0 0 _ _ _ w (by omega) hs (by omega) (picks_st1 (row b 51 (scC s j 0 0)) hw))) ?_
          rintro _ _ _ ⟨rfl, rfl, rfl⟩
          refine l_nil ?_
          refine n_then ?_
          refine t_goto ?_
          refine n_goto_block ?_
          refine n_goto_then ?_
          have hb9 : blankN (s.drop j) = 1 := blank_one hc1 hc2
          have h3 := hst.2 _ hb9 (by omega)
          rw [List.drop_drop] at h3
          refine n_gotoE ((j + 1, g - 1)) ?_ ?_ (sub_nil) (sub_cons rfl (sub_cons rfl sub_nil)) (fun _ h => by dsimp only; rw [show min (j + 1) s.length = j + 1 by omega] at h; exact subC_st h)
          · try dsimp only
            refine ⟨by omega, by omega, by rw [h3]; congr 1; omega, ?_⟩
            rw [List.length_drop] at hfl ⊢
            omega
          · try dsimp only
            show s.length - (j + 1) < s.length - j
            omega
        · skip
          refine t_seq ?_
          refine t_region ?_
          refine l_q rfl rfl rfl (q_move rfl rfl) ?_
          refine l_q rfl rfl rfl (q_eql_u8c rfl rfl rfl rfl) ?_
          refine l_q rfl rfl rfl (q_assign rfl rfl) ?_
          refine l_nil ?_
          refine n_then ?_
          refine t_cond rfl (fun hc3 => ?_) (fun hc3 => ?_)
          · skip
            simp only [decide_eq_true_eq, decide_eq_false_iff_not] at hc3
            have hc3 : nth s j 0 = 35 := hc3
            have hrem := remark_pos (l := s.drop j) (by rw [nth_drop_head]; exact hc3) (drop_ne hj)
            rw [List.length_drop] at hrem
            refine t_seq ?_
            refine t_seq ?_
            refine t_region ?_
            refine l_q rfl rfl rfl (q_move rfl rfl) ?_
            refine l_q rfl rfl rfl (q_nilCheck rfl rfl) ?_
            refine l_q rfl rfl rfl (q_fieldAddr rfl Tryd.underlying51 rfl rfl ti9 rfl rfl) ?_
            refine l_q rfl rfl rfl (q_load_row rfl Tryd.underlying9 rfl rfl (by rfl)) ?_
            refine l_q rfl rfl rfl (q_move rfl rfl) ?_
            refine l_q rfl rfl rfl (q_slice_str_from rfl Tryd.underlying9 rfl rfl (by omega)) ?_
            refine l_q rfl rfl rfl (quiet_call rfl rfl rfl Tryd.func21 (by kernel_rfl) rfl ((fun w _ => indexByte_pure (s.drop j) 10 w))) ?_
            refine l_q rfl rfl rfl (q_assign rfl rfl) ?_
            refine l_nil ?_
            refine n_then ?_
            refine t_seq ?_
            refine t_region ?_
            refine l_q rfl rfl rfl (q_move rfl rfl) ?_
            refine l_q rfl rfl rfl (q_geq rfl rfl rfl) ?_
            refine l_nil ?_
            refine n_then ?_
            refine t_cond rfl (fun hc4 => ?_) (fun hc4 => ?_)
            · skip
              try simp at hc4
              obtain ⟨m, hm⟩ : ∃ m : Nat, Lib.indexByte (s.drop j) 10 = m := ⟨(Lib.indexByte (s.drop j) 10).toNat, by omega⟩
              rw [remark, if_pos hc4, hm] at hrem
              replace hrem : 1 ≤ m ∧ m ≤ s.length - j := hrem
              rw [hm]
              refine t_region ?_
              refine l_q rfl rfl rfl (q_move rfl rfl) ?_
              refine l_q rfl rfl rfl (q_move rfl rfl) ?_
              refine l_e rfl rfl rfl (eff_call rfl rfl rfl Tryd.func35 (by kernel_rfl) rfl (fun w hw => skip_calls b s j m 0 0 _ _ _ w (by omega) hs (by omega) (picks_st1 (row b 51 (scC s j 0 0)) hw))) ?_
              rintro _ _ _ ⟨rfl, rfl, rfl⟩
              refine l_nil ?_
              refine n_then ?_
              refine t_goto ?_
              refine n_goto_block ?_
              refine n_goto_then ?_
              have hb9 : blankN (s.drop j) = m := by rw [blank_rem hc1 hc2 hc3, remark, if_pos (by omega), hm]; rfl
              have h3 := hst.2 _ hb9 (by omega)
              rw [List.drop_drop] at h3
              refine n_gotoE ((j + m, g - 1)) ?_ ?_ (sub_nil) (sub_cons rfl (sub_cons rfl sub_nil)) (fun _ h => by dsimp only; rw [show min (j + m) s.length = j + m by omega] at h; exact subC_st h)
              · try dsimp only
                refine ⟨by omega, by omega, by rw [h3]; congr 1; omega, ?_⟩
                rw [List.length_drop] at hfl ⊢
                omega
              · try dsimp only
                show s.length - (j + m) < s.length - j
                omega
            · skip
              try simp at hc4
              refine t_region ?_
              refine l_q rfl rfl rfl (q_move rfl rfl) ?_
              refine l_q rfl rfl rfl (q_move rfl rfl) ?_
              refine l_q rfl rfl rfl (q_nilCheck rfl rfl) ?_
              refine l_q rfl rfl rfl (q_fieldAddr rfl Tryd.underlying51 rfl rfl ti9 rfl rfl) ?_
              refine l_q rfl rfl rfl (q_load_row rfl Tryd.underlying9 rfl rfl (by rfl)) ?_
              refine l_q rfl rfl rfl (q_len_str rfl Tryd.underlying9 rfl) ?_
              refine l_q rfl rfl rfl (q_nilCheck rfl rfl) ?_
              refine l_q rfl rfl rfl (q_fieldAddr rfl Tryd.underlying51 rfl rfl ti3 rfl rfl) ?_
              refine l_e0 rfl rfl (e_storeS rfl ti3 rfl rfl (by first | exact ⟨rfl, rfl⟩ | assumption) rfl (by first | (simp only [List.set_cons_succ, List.set_cons_zero]; rfl) | rfl)) ?_
              rintro _ _ _ ⟨rfl, rfl⟩
              refine l_heap (H' := row b 51 (scC s s.length 0 0) :: _) ?_ (fun _ h => h)
              refine l_nil ?_
              refine n_then ?_
              refine t_goto ?_
              refine n_goto_block ?_
              refine n_goto_then ?_
              have hb9 : blankN (s.drop j) = (s.length - j) := by rw [blank_rem hc1 hc2 hc3, remark, if_neg (by omega), List.length_drop]
              have h3 := hst.2 _ hb9 (by omega)
              rw [List.drop_drop] at h3
              refine n_gotoE ((j + (s.length - j), g - 1)) ?_ ?_ (sub_nil) (sub_cons rfl (sub_cons rfl sub_nil)) (fun _ h => by dsimp only; rw [show j + (s.length - j) = s.length by omega]; exact subC_st h)
              · try dsimp only
                refine ⟨by omega, by omega, by rw [h3]; congr 1; omega, ?_⟩
                rw [List.length_drop] at hfl ⊢
                omega
              · try dsimp only
                show s.length - (j + (s.length - j)) < s.length - j
                omega
          · skip
            simp only [decide_eq_true_eq, decide_eq_false_iff_not] at hc3
            have hc3 : ¬ nth s j 0 = 35 := hc3
            have hhd := hst.1 (blank_no hc1 hc2 hc3)
            refine t_seq ?_
            refine t_region ?_
            refine l_q rfl rfl rfl (q_move rfl rfl) ?_
            refine l_q rfl rfl rfl (q_eql_u8c rfl rfl rfl rfl) ?_
            refine l_q rfl rfl rfl (q_assign rfl rfl) ?_
            refine l_nil ?_
            refine n_then ?_
            refine t_cond rfl (fun hc5 => ?_) (fun hc5 => ?_)
            · skip
              simp only [decide_eq_true_eq, decide_eq_false_iff_not] at hc5
              have hc5 : nth s j 0 = 10 := hc5
              have hhd2 : headP (s.drop j) = .tok 0 1 3 [10] := by rw [headP, nth_drop_head, if_pos hc5]
              refine t_seq ?_
              refine t_region ?_
              refine l_q rfl rfl rfl (q_move rfl rfl) ?_
              refine l_e rfl rfl rfl (eff_call rfl rfl rfl Tryd.func35 (by kernel_rfl) rfl (fun w hw => skip_calls b s j 1 0 0 _ _ _ w (by omega) hs (by omega) (picks_st1 (row b 51 (scC s j 0 0)) hw))) ?_
              rintro _ _ _ ⟨rfl, rfl, rfl⟩
              refine l_nil ?_
              refine n_then ?_
              refine t_seq ?_
              refine t_region ?_
              refine l_q rfl rfl rfl (q_move rfl rfl) ?_
              refine l_q rfl rfl rfl (q_build (pl := [(_, _), (_, _), (_, _), (_, _), (_, _)]) (cs := (tokC ⟨3, [10], j, [], false⟩).toArray) rfl Tryd.underlying28 ti28 ⟨rfl, ⟨_, _, ti3⟩, rfl, ⟨_, _, ti9⟩, rfl, ⟨_, _, ti3⟩, rfl, ⟨_, _, ti9⟩, rfl, ⟨_, _, ti4⟩, trivial⟩ rfl rfl) ?_
              refine l_e0 rfl rfl ((by first | exact e_store_all rfl ti28 rfl rfl rfl (by first | exact chC_ones _ | exact pcC_ones _ | exact tokC_ones _ | simp [Value.oneCell', str, u8]) rfl | exact e_store_agg rfl ti28 rfl rfl rfl (by first | exact chC_ones _ | exact pcC_ones _ | exact tokC_ones _ | simp [Value.oneCell', str, u8]) rfl)) ?_
              rintro _ _ _ ⟨rfl, rfl⟩
              refine l_q rfl rfl rfl (q_assign rfl rfl) ?_
              refine l_nil ?_
              refine n_then ?_
              refine t_ret ?_
              refine n_ret_block ?_
              refine n_ret_then ?_
              refine n_ret_jump ?_
              refine n_retGG (.inl rfl) rfl (by exact rg_row rfl Tryd.underlying28 ti28 rfl rfl (rg_tmp rfl (rg_nil))) (fun w' hw => ?_)
              -- leaf 1
              exact ⟨_, rfl, I, _, ⟨rfl, ⟨3, [10], j, [], false⟩, true, (min (j + 1) s.length), 0, 0, rfl, (by rw [hhd, hhd2]; exact TRel.on ⟨rfl, rfl, (by omega), rfl, rfl⟩ hj1), (by omega), rfl⟩, subC_st hw⟩
            · skip
              simp only [decide_eq_true_eq, decide_eq_false_iff_not] at hc5
              have hc5 : ¬ nth s j 0 = 10 := hc5
              refine t_skip ?_
              refine n_block ?_
              refine n_then ?_
              refine t_seq ?_
              refine t_seq ?_
              refine t_region ?_
              refine l_q rfl rfl rfl (q_move rfl rfl) ?_
              refine l_q rfl rfl rfl (quiet_call rfl rfl rfl Tryd.func36 (by kernel_rfl) rfl ((fun w hw => operator_pure b s j w hs (by omega) (rowed_of hw) (hG.mono hw.imm)))) ?_
              refine l_q rfl rfl rfl (q_assign rfl rfl) ?_
              refine l_nil ?_
              refine n_then ?_
              refine t_seq ?_
              refine t_region ?_
              refine l_q rfl rfl rfl (q_move rfl rfl) ?_
              refine l_q rfl rfl rfl (q_neq_str rfl rfl rfl) ?_
              refine l_nil ?_
              refine n_then ?_
              refine t_cond rfl (fun hc6 => ?_) (fun hc6 => ?_)
              · skip
                have hc6 := of_decide_eq_true hc6
                have hopl := (opN_len 3 (s.drop j)).1
                rw [List.length_drop] at hopl
                replace hopl : (opP (s.drop j)).length ≤ s.length - j := hopl
                have hhd2 : headP (s.drop j) = .tok 0 (opP (s.drop j)).length 2 (opP (s.drop j)) := by rw [headP, nth_drop_head, if_neg hc5, if_pos hc6]
                refine t_seq ?_
                refine t_region ?_
                refine l_q rfl rfl rfl (q_move rfl rfl) ?_
                refine l_q rfl rfl rfl (q_move rfl rfl) ?_
                refine l_q rfl rfl rfl (q_len_str rfl Tryd.underlying9 rfl) ?_
                refine l_e rfl rfl rfl (eff_call rfl rfl rfl Tryd.func35 (by kernel_rfl) rfl (fun w hw => skip_calls b s j (opP (s.drop j)).length 0 0 _ _ _ w (by omega) hs (by omega) (picks_st1 (row b 51 (scC s j 0 0)) hw))) ?_
                rintro _ _ _ ⟨rfl, rfl, rfl⟩
                refine l_nil ?_
                refine n_then ?_
                refine t_seq ?_
                refine t_region ?_
                refine l_q rfl rfl rfl (q_move rfl rfl) ?_
                refine l_q rfl rfl rfl (q_move rfl rfl) ?_
                refine l_q rfl rfl rfl (q_build (pl := [(_, _), (_, _), (_, _), (_, _), (_, _)]) (cs := (tokC ⟨2, opP (s.drop j), j, [], false⟩).toArray) rfl Tryd.underlying28 ti28 ⟨rfl, ⟨_, _, ti3⟩, rfl, ⟨_, _, ti9⟩, rfl, ⟨_, _, ti3⟩, rfl, ⟨_, _, ti9⟩, rfl, ⟨_, _, ti4⟩, trivial⟩ rfl rfl) ?_
                refine l_e0 rfl rfl ((by first | exact e_store_all rfl ti28 rfl rfl rfl (by first | exact chC_ones _ | exact pcC_ones _ | exact tokC_ones _ | simp [Value.oneCell', str, u8]) rfl | exact e_store_agg rfl ti28 rfl rfl rfl (by first | exact chC_ones _ | exact pcC_ones _ | exact tokC_ones _ | simp [Value.oneCell', str, u8]) rfl)) ?_
                rintro _ _ _ ⟨rfl, rfl⟩
                refine l_q rfl rfl rfl (q_assign rfl rfl) ?_
                refine l_nil ?_
                refine n_then ?_
                refine t_ret ?_
                refine n_ret_then ?_
                refine n_ret_jump ?_
                refine n_retGG (.inl rfl) rfl (by exact rg_row rfl Tryd.underlying28 ti28 rfl rfl (rg_tmp rfl (rg_nil))) (fun w' hw => ?_)
                -- leaf 2
                exact ⟨_, rfl, I, _, ⟨rfl, ⟨2, opP (s.drop j), j, [], false⟩, true, (min (j + (opP (s.drop j)).length) s.length), 0, 0, rfl, (by rw [hhd, hhd2]; exact TRel.on ⟨rfl, rfl, (by omega), rfl, rfl⟩ hj1), (by omega), rfl⟩, subC_st hw⟩
              · skip
                have hc6 := of_decide_eq_false hc6
                have hhd2 : headP (s.drop j) = restP (s.drop j) := by rw [headP, nth_drop_head, if_neg hc5, if_neg hc6]
                refine t_skip ?_
                refine n_then ?_
                refine t_seq ?_
                refine t_region ?_
                refine l_q rfl rfl rfl (q_move rfl rfl) ?_
                refine l_q rfl rfl rfl (q_move rfl rfl) ?_
                refine l_e rfl rfl rfl (eff_call rfl rfl rfl Tryd.func37 (by kernel_rfl) rfl (fun w hw => rest_calls b s j _ _ _ w hs (by omega) (picks_st1 (row b 51 (scC s j 0 0)) hw))) ?_
                rintro _ _ _ ⟨rfl, tt, ok86, i86, a86, e86, rfl, hr86, hi86, rfl⟩
                refine l_q rfl rfl rfl (q_extract rfl rfl rfl) ?_
                refine l_q rfl rfl rfl (q_extract rfl rfl rfl) ?_
                refine l_e0 rfl rfl ((by first | exact e_store_all rfl ti28 rfl rfl rfl (by first | exact chC_ones _ | exact pcC_ones _ | exact tokC_ones _ | simp [Value.oneCell', str, u8]) rfl | exact e_store_agg rfl ti28 rfl rfl rfl (by first | exact chC_ones _ | exact pcC_ones _ | exact tokC_ones _ | simp [Value.oneCell', str, u8]) rfl)) ?_
                rintro _ _ _ ⟨rfl, rfl⟩
                refine l_q rfl rfl rfl (q_assign rfl rfl) ?_
                refine l_nil ?_
                refine n_then ?_
                refine t_ret ?_
                refine n_ret_jump ?_
                refine n_retGG (.inl rfl) rfl (by exact rg_row rfl Tryd.underlying28 ti28 rfl rfl (rg_tmp rfl (rg_nil))) (fun w' hw => ?_)
                -- leaf 3
                exact ⟨_, rfl, I, _, ⟨rfl, tt, ok86, i86, a86, e86, rfl, (by rw [hhd, hhd2]; exact hr86.on hj1), hi86, rfl⟩, subC_st hw⟩)
end Go.Tri
