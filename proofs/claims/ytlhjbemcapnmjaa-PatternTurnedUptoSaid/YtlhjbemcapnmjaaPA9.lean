/-
  The reference: whole texts.
-/
import Derived.Test.YtlhjbemcapnmjaaPA8
namespace Go.Tri
open Go.Proofs Go.RowKit
theorem MInv.start' (p : List Ch) (s : List UInt8) (ag : List Ch) (fr : List UInt8) : MInv p s false ag fr p s := ⟨by simp, fun h => by cases h⟩
theorem nth_drop0 (s : List UInt8) (k : Nat) : nth (s.drop k) 0 0 = nth s k 0 := by
  unfold nth
  rw [List.getD_eq_getElem?_getD, List.getD_eq_getElem?_getD, List.getElem?_drop]; rfl
def RStep (p : List Ch) (s : List UInt8) (i k : Nat) (ok : Bool) (n : Nat) : Prop :=
  (i < p.length → k < s.length → oneP (p.drop i) (nth s k 0) = (ok, p.drop (i + n)) ∧ 1 ≤ n ∧ i + n ≤ p.length) ∧ (ok = true → i < p.length ∧ k < s.length)
theorem one_plain {p : List Ch} {i : Nat} {c : UInt8} (hi : i < p.length) (h63 : isP p i 63 = false) (h91 : isP p i 91 = false ∨ bracketP (p.drop i) c = none) : oneP (p.drop i) c = (decide ((nth p i ch0).b = c), p.drop (i + 1)) := by
  rw [isP_starts] at h63
  have e : nth (p.drop i) 0 ch0 = nth p i ch0 := drop_nth2 p i 0
  unfold oneP
  rw [if_neg (by simp [h63])]
  rcases h91 with h | h
  · rw [isP_starts] at h
    rw [if_neg (by simp [h]), List.drop_drop, e]
  · split
    · rw [h]; simp only [List.drop_drop, e]
    · rw [List.drop_drop, e]
set_option maxRecDepth 10000 in
theorem refMatch_pure (v : Value) (p : List Ch) (s : List UInt8) (w : World) (hp : p.length ≤ 4611686018427387904) (hs : s.length ≤ 4611686018427387904) (hv : Sl (look w) 2 v (p.map chC)) : Pure Try.prog 14 [v, str s] w (.bool (Mt p s)) := by
  refine enter Try.func14 rfl Try.ntmps14 rfl (St.start w (look w) (Le.refl _)) ?_
  refine t_seq ?_
  refine t_region ?_
  refine l_q rfl rfl rfl (q_assign rfl rfl) ?_
  refine l_nil ?_
  refine n_then ?_
  refine t_seq ?_
  refine t_region ?_
  refine l_q rfl rfl rfl (q_assign rfl rfl) ?_
  refine l_q rfl rfl rfl (q_assign rfl rfl) ?_
  refine l_nil ?_
  refine n_then ?_
  refine t_seq ?_
  refine t_region ?_
  refine l_q rfl rfl rfl (q_assign rfl rfl) ?_
  refine l_q rfl rfl rfl (q_assign rfl rfl) ?_
  refine l_nil ?_
  refine n_then ?_
  refine t_block ?_
  refine t_loopE (ι := Nat × Nat × Bool × Nat × Nat) (fun zz => zz.1 ≤ p.length ∧ zz.2.1 ≤ s.length ∧ zz.2.2.2.2 ≤ s.length ∧ zz.2.2.2.1 + 1 ≤ p.length + 1 ∧ MInv p s zz.2.2.1 (p.drop (zz.2.2.2.1 + 1)) (s.drop zz.2.2.2.2) (p.drop zz.1) (s.drop zz.2.1) ∧ (zz.2.2.1 = true → zz.2.2.2.2 ≤ zz.2.1) ∧ (zz.2.2.1 = true → zz.2.2.2.1 + 1 ≤ p.length)) (fun zz => (if zz.2.2.1 then s.length - zz.2.2.2.2 else s.length + 1) * (p.length + s.length + 1) + ((p.length - zz.1) + (s.length - zz.2.1))) (fun zz => [(5, .int .i64 (zz.1 : Int)), (6, .int .i64 (zz.2.1 : Int)), (7, .int .i64 (if zz.2.2.1 then (zz.2.2.2.1 : Int) else -1)), (8, .int .i64 (zz.2.2.2.2 : Int))]) [(0, _), (1, _)] (fun zz => look w) (fun zz => []) (0, 0, false, 0, 0) ?_ (sub_cons rfl (sub_cons rfl (sub_cons rfl (sub_cons rfl sub_nil)))) (sub_cons rfl (sub_cons rfl sub_nil)) (fun _ h => subC_st h) ?_
  · try dsimp only
    exact ⟨Nat.zero_le _, Nat.zero_le _, Nat.zero_le _, by omega, MInv.start' p s _ _, (fun h => by cases h), fun h => by cases h⟩
  rintro ⟨i, k, sb, sa, fr⟩ ⟨hi, hk, hfr, hsa, hm, hfk, hsp⟩
  try dsimp only at *
  refine t_block ?_
  refine t_seq ?_
  refine t_seq ?_
  refine t_region ?_
  refine l_q rfl rfl rfl (q_move rfl rfl) ?_
  refine l_q rfl rfl rfl (q_move rfl rfl) ?_
  refine l_q rfl rfl rfl (quiet_call rfl rfl rfl Try.func24 (by kernel_rfl) rfl ((fun w hw => is_pure v p (i) 42 w hp (by omega) (hv.mono (Le.of_st hw))))) ?_
  refine l_nil ?_
  refine n_then ?_
  refine t_cond rfl (fun hc0 => ?_) (fun hc0 => ?_)
  · skip
    refine t_seq ?_
    refine t_region ?_
    refine l_q rfl rfl rfl (q_move rfl rfl) ?_
    refine l_q rfl rfl rfl (q_move rfl rfl) ?_
    refine l_q rfl rfl rfl (q_assign rfl rfl) ?_
    refine l_q rfl rfl rfl (q_assign rfl rfl) ?_
    refine l_nil ?_
    refine n_then ?_
    refine t_seq ?_
    refine t_region ?_
    refine l_q rfl rfl rfl (q_move rfl rfl) ?_
    refine l_q rfl rfl rfl (q_add64 rfl rfl rfl (by omega)) ?_
    refine l_q rfl rfl rfl (q_assign rfl rfl) ?_
    refine l_nil ?_
    refine n_then ?_
    refine t_exit ?_
    refine n_exit_then ?_
    refine n_exit_block ?_
    refine n_roundE ((i + 1, k, true, i, k)) ?_ ?_ (sub_cons rfl (sub_cons rfl (sub_cons rfl (sub_cons rfl sub_nil)))) (sub_cons rfl (sub_cons rfl sub_nil)) (fun _ h => by try dsimp only; exact subC_st h)
    · try dsimp only
      have h0 : startsP (p.drop i) [42] = true := by rw [← isP_starts]; exact hc0
      have h1 := startsP_len h0
      have h2 := hm.star h0
      rw [List.drop_drop] at h2
      rw [List.length_drop] at h1
      simp at h1
      exact ⟨by omega, hk, hk, by omega, h2, fun _ => Nat.le_refl _, fun _ => by omega⟩
    · try dsimp only
      have h0 : startsP (p.drop i) [42] = true := by rw [← isP_starts]; exact hc0
      have h1 := startsP_len h0
      rw [List.length_drop] at h1
      simp at h1
      rw [if_pos rfl]
      refine Nat.lt_of_lt_of_le (Nat.add_lt_add_left (show p.length - (i + 1) + (s.length - k) < p.length - i + (s.length - k) by omega) _) (Nat.add_le_add_right (Nat.mul_le_mul_right _ ?_) _)
      split
      · have := hfk ‹_›; omega
      · omega
  · skip
    have hst : startsP (p.drop i) [42] = false := by rw [← isP_starts]; exact hc0
    refine t_skip ?_
    refine n_then ?_
    refine t_seq ?_
    refine t_seq ?_
    refine t_qreg ?_
    refine s_q rfl rfl rfl (q_move rfl rfl) ?_
    refine s_q rfl rfl rfl (q_move rfl rfl) ?_
    refine s_q rfl rfl rfl ((by first | exact q_lenV rfl Try.underlying22 rfl | exact q_len rfl Try.underlying22 rfl (Sl.lenOf hv (List.length_map _)))) ?_
    refine s_q rfl rfl rfl (q_eql rfl rfl rfl) ?_
    refine s_q rfl rfl rfl (q_move rfl rfl) ?_
    refine s_and2 4 4 24 29 28 _ _ rfl rfl rfl rfl rfl rfl (fun h29 => by
        try simp at h29
        refine s_g rfl rfl rfl rfl rfl rfl (q_move rfl rfl) ?_
        refine s_g rfl rfl rfl rfl rfl rfl (q_move rfl rfl) ?_
        refine s_g rfl rfl rfl rfl rfl rfl (q_len_str rfl Try.underlying9 rfl) ?_
        refine s_g rfl rfl rfl rfl rfl rfl (q_eql rfl rfl rfl) ?_
        exact s_val rfl
      ) (wanted_n rfl) rfl rfl rfl ?_
    refine s_done ?_
    refine n_then ?_
    refine t_cond rfl (fun hc1 => ?_) (fun hc1 => ?_)
    · skip
      have h1 : (decide ((i : Int) = (p.length : Int)) && decide ((k : Int) = (s.length : Int))) = true := hc1
      rw [Bool.and_eq_true, decide_eq_true_eq, decide_eq_true_eq] at h1
      refine t_seq ?_
      refine t_region ?_
      refine l_q rfl rfl rfl (q_assign rfl rfl) ?_
      refine l_nil ?_
      refine n_then ?_
      refine t_ret ?_
      refine n_ret_then ?_
      refine n_ret_block ?_
      refine n_ret_then ?_
      refine n_ret_block ?_
      refine n_ret1 rfl rfl (fun w' hw => ?_)
      -- leaf 0
      refine ⟨?_, hw.below⟩
      rw [hm.done]
      rw [List.drop_of_length_le (by omega), List.drop_of_length_le (by omega)]; rfl
    · skip
      have h1 : (decide ((i : Int) = (p.length : Int)) && decide ((k : Int) = (s.length : Int))) = false := hc1
      rw [Bool.and_eq_false_iff, decide_eq_false_iff_not, decide_eq_false_iff_not] at h1
      refine t_skip ?_
      refine n_then ?_
      refine t_seq ?_
      refine t_region ?_
      refine l_q rfl rfl rfl (q_assign rfl rfl) ?_
      refine l_nil ?_
      refine n_then ?_
      refine t_seq ?_
      refine t_region ?_
      refine l_q rfl rfl rfl (q_assign rfl rfl) ?_
      refine l_nil ?_
      refine n_then ?_
      refine t_cutE (ι := Bool × Nat) (fun zz => RStep p s i k zz.1 zz.2 ∧ i + zz.2 ≤ p.length + 1) (fun zz => [(9, .bool zz.1), (10, .int .i64 (zz.2 : Int))]) [(5, _), (6, _), (7, _), (8, _), (0, _), (1, _), (15, _), (29, _)] (fun zz => look w) (fun zz => []) (sub_cons rfl (sub_cons rfl (sub_cons rfl (sub_cons rfl (sub_cons rfl (sub_cons rfl (sub_cons rfl (sub_cons rfl sub_nil)))))))) ?_ ?_
      · skip
        refine t_seq ?_
        refine t_qreg ?_
        refine s_q rfl rfl rfl (q_move rfl rfl) ?_
        refine s_q rfl rfl rfl (q_move rfl rfl) ?_
        refine s_q rfl rfl rfl ((by first | exact q_lenV rfl Try.underlying22 rfl | exact q_len rfl Try.underlying22 rfl (Sl.lenOf hv (List.length_map _)))) ?_
        refine s_q rfl rfl rfl (q_lss rfl rfl rfl) ?_
        refine s_q rfl rfl rfl (q_move rfl rfl) ?_
        refine s_and2 4 4 34 39 38 _ _ rfl rfl rfl rfl rfl rfl (fun h39 => by
            try simp at h39
            refine s_g rfl rfl rfl rfl rfl rfl (q_move rfl rfl) ?_
            refine s_g rfl rfl rfl rfl rfl rfl (q_move rfl rfl) ?_
            refine s_g rfl rfl rfl rfl rfl rfl (q_len_str rfl Try.underlying9 rfl) ?_
            refine s_g rfl rfl rfl rfl rfl rfl (q_lss rfl rfl rfl) ?_
            exact s_val rfl
          ) (wanted_n rfl) rfl rfl rfl ?_
        refine s_done ?_
        refine n_then ?_
        refine t_cond rfl (fun hc2 => ?_) (fun hc2 => ?_)
        · skip
          have h2 : (decide ((i : Int) < (p.length : Int)) && decide ((k : Int) < (s.length : Int))) = true := hc2
          rw [Bool.and_eq_true, decide_eq_true_eq, decide_eq_true_eq] at h2
          have hip : i < p.length := by omega
          have hks : k < s.length := by omega
          refine t_seq ?_
          refine t_qdraw mo (by kernel_rfl) (fun _ _ _ _ _ h => h) ?_
          refine s_q rfl rfl rfl (q_move rfl rfl) ?_
          refine s_q rfl rfl rfl (q_move rfl rfl) ?_
          refine s_q rfl rfl rfl ((by first | exact q_indexAddrVN rfl Try.underlying22 ti29 rfl rfl (by omega) | exact q_indexAddrN rfl Try.underlying22 ti29 rfl rfl (Sl.shape hv (List.length_map _)) (by omega) | exact q_indexAddrV rfl Try.underlying22 ti29 rfl rfl (by omega) | exact q_indexAddr rfl Try.underlying22 ti29 rfl rfl (Sl.shape hv (List.length_map _)) (by omega))) ?_
          refine s_q rfl rfl rfl (q_fieldAddr rfl Try.underlying29 rfl rfl ti5 rfl rfl) ?_
          refine s_q rfl rfl rfl ((by first | exact q_load_row rfl Try.underlying5 rfl rfl (by rfl) | exact q_load rfl Try.underlying5 rfl rfl (rd_ch_b0 (i := i) hv (by omega)))) ?_
          refine s_q rfl rfl rfl (q_move rfl rfl) ?_
          refine s_q rfl rfl rfl (q_move rfl rfl) ?_
          refine s_q rfl rfl rfl ((by first | exact q_index_strN rfl Try.underlying9 rfl rfl (by omega) | exact q_index_str rfl Try.underlying9 rfl rfl (by omega))) ?_
          refine s_q rfl rfl rfl (q_eql_u8 rfl rfl rfl) ?_
          refine s_q rfl rfl rfl (q_assign rfl rfl) ?_
          refine s_done ?_
          refine n_then ?_
          refine t_seq ?_
          refine t_seq ?_
          refine t_region ?_
          refine l_q rfl rfl rfl (q_move rfl rfl) ?_
          refine l_q rfl rfl rfl (q_move rfl rfl) ?_
          refine l_q rfl rfl rfl (quiet_call rfl rfl rfl Try.func24 (by kernel_rfl) rfl ((fun w hw => is_pure v p (i) 63 w hp (by omega) (hv.mono (Le.of_st hw))))) ?_
          refine l_nil ?_
          refine n_then ?_
          refine t_cond rfl (fun hc3 => ?_) (fun hc3 => ?_)
          · skip
            refine t_region ?_
            refine l_q rfl rfl rfl (q_assign rfl rfl) ?_
            refine l_nil ?_
            refine n_then ?_
            refine t_seq ?_
            refine t_region ?_
            refine l_q rfl rfl rfl (q_move rfl rfl) ?_
            refine l_q rfl rfl rfl (q_move rfl rfl) ?_
            refine l_q rfl rfl rfl (quiet_call rfl rfl rfl Try.func24 (by kernel_rfl) rfl ((fun w hw => is_pure v p (i) 91 w hp (by omega) (hv.mono (Le.of_st hw))))) ?_
            refine l_nil ?_
            refine n_then ?_
            refine t_cond rfl (fun hc4 => ?_) (fun hc4 => ?_)
            · skip
              exfalso
              rw [isP_starts, drop_nth ch0 hip, startsP_one] at hc3 hc4
              rw [of_decide_eq_true hc3] at hc4
              exact absurd hc4 (by decide)
            · skip
              refine t_skip ?_
              refine n_cut ((true, 1)) ?_ (sub_cons rfl (sub_cons rfl sub_nil)) (sub_cons rfl (sub_cons rfl (sub_cons rfl (sub_cons rfl (sub_cons rfl (sub_cons rfl (sub_cons rfl (sub_cons rfl sub_nil)))))))) (fun _ h => by try dsimp only; exact subC_st h)
              · try dsimp only
                refine ⟨⟨fun _ _ => ⟨?_, Nat.le_refl _, by omega⟩, fun _ => ⟨hip, hks⟩⟩, by omega⟩
                rw [isP_starts] at hc3
                rw [oneP, if_pos hc3, List.drop_drop]
          · skip
            refine t_skip ?_
            refine n_then ?_
            refine t_seq ?_
            refine t_region ?_
            refine l_q rfl rfl rfl (q_move rfl rfl) ?_
            refine l_q rfl rfl rfl (q_move rfl rfl) ?_
            refine l_q rfl rfl rfl (quiet_call rfl rfl rfl Try.func24 (by kernel_rfl) rfl ((fun w hw => is_pure v p (i) 91 w hp (by omega) (hv.mono (Le.of_st hw))))) ?_
            refine l_nil ?_
            refine n_then ?_
            refine t_cond rfl (fun hc5 => ?_) (fun hc5 => ?_)
            · skip
              refine t_seq ?_
              refine t_region ?_
              refine l_q rfl rfl rfl (q_move rfl rfl) ?_
              refine l_q rfl rfl rfl (q_move rfl rfl) ?_
              refine l_q rfl rfl rfl (q_move rfl rfl) ?_
              refine l_q rfl rfl rfl (q_move rfl rfl) ?_
              refine l_q rfl rfl rfl ((by first | exact q_index_strN rfl Try.underlying9 rfl rfl (by omega) | exact q_index_str rfl Try.underlying9 rfl rfl (by omega))) ?_
              refine l_e rfl rfl rfl (eff_callX rfl rfl rfl Try.func25 (by kernel_rfl) rfl (fun w hw => refBracket_X v p i (nth s k 0) w hp hip (hv.mono (Le.of_st hw)))) ?_
              rintro _ _ _ ⟨⟨m, fb, rfl, hbr⟩, rfl, rfl⟩
              refine l_q rfl rfl rfl (q_move rfl rfl) ?_
              refine l_q rfl rfl rfl (q_extract rfl rfl rfl) ?_
              refine l_q rfl rfl rfl (q_extract rfl rfl rfl) ?_
              refine l_q rfl rfl rfl (q_assign rfl rfl) ?_
              refine l_q rfl rfl rfl (q_assign rfl rfl) ?_
              refine l_nil ?_
              refine n_then ?_
              refine t_seq ?_
              refine t_region ?_
              refine l_q rfl rfl rfl (q_move rfl rfl) ?_
              refine l_q rfl rfl rfl (q_gtr rfl rfl rfl) ?_
              refine l_nil ?_
              refine n_then ?_
              refine t_cond rfl (fun hc6 => ?_) (fun hc6 => ?_)
              · skip
                try simp at hc6
                refine t_region ?_
                refine l_q rfl rfl rfl (q_move rfl rfl) ?_
                refine l_q rfl rfl rfl (q_move rfl rfl) ?_
                refine l_q rfl rfl rfl (q_assign rfl rfl) ?_
                refine l_q rfl rfl rfl (q_assign rfl rfl) ?_
                refine l_nil ?_
                refine n_cut ((fb, m)) ?_ (sub_cons rfl (sub_cons rfl sub_nil)) (sub_cons rfl (sub_cons rfl (sub_cons rfl (sub_cons rfl (sub_cons rfl (sub_cons rfl (sub_cons rfl (sub_cons rfl sub_nil)))))))) (fun _ h => by try dsimp only; exact subC_st h)
                · try dsimp only
                  rcases hbr with ⟨h1, h2, h3⟩ | ⟨h1, _⟩
                  · refine ⟨⟨fun _ _ => ⟨?_, h1, h2⟩, fun _ => ⟨hip, hks⟩⟩, by omega⟩
                    rw [isP_starts] at hc3 hc5
                    rw [oneP, if_neg (by simp [hc3]), if_pos hc5, h3]
                  · omega
              · skip
                try simp at hc6
                refine t_skip ?_
                refine n_cut ((decide ((nth p i ch0).b = nth s k 0), 1)) ?_ (sub_cons rfl (sub_cons rfl sub_nil)) (sub_cons rfl (sub_cons rfl (sub_cons rfl (sub_cons rfl (sub_cons rfl (sub_cons rfl (sub_cons rfl (sub_cons rfl sub_nil)))))))) (fun _ h => by try dsimp only; exact subC_st h)
                · try dsimp only
                  rcases hbr with ⟨h1, _⟩ | ⟨_, h1⟩
                  · omega
                  · exact ⟨⟨fun _ _ => ⟨one_plain hip hc3 (.inr h1), Nat.le_refl _, by omega⟩, fun _ => ⟨hip, hks⟩⟩, by omega⟩
            · skip
              refine t_skip ?_
              refine n_cut ((decide ((nth p i ch0).b = nth s k 0), 1)) ?_ (sub_cons rfl (sub_cons rfl sub_nil)) (sub_cons rfl (sub_cons rfl (sub_cons rfl (sub_cons rfl (sub_cons rfl (sub_cons rfl (sub_cons rfl (sub_cons rfl sub_nil)))))))) (fun _ h => by try dsimp only; exact subC_st h)
              · try dsimp only
                exact ⟨⟨fun _ _ => ⟨one_plain hip hc3 (.inl hc5), Nat.le_refl _, by omega⟩, fun _ => ⟨hip, hks⟩⟩, by omega⟩
        · skip
          refine t_skip ?_
          refine n_cut ((false, 1)) ?_ (sub_cons rfl (sub_cons rfl sub_nil)) (sub_cons rfl (sub_cons rfl (sub_cons rfl (sub_cons rfl (sub_cons rfl (sub_cons rfl (sub_cons rfl (sub_cons rfl sub_nil)))))))) (fun _ h => by try dsimp only; exact subC_st h)
          · try dsimp only
            have h2 : (decide ((i : Int) < (p.length : Int)) && decide ((k : Int) < (s.length : Int))) = false := hc2
            rw [Bool.and_eq_false_iff, decide_eq_false_iff_not, decide_eq_false_iff_not] at h2
            exact ⟨⟨fun h3 h4 => by omega, fun h => by cases h⟩, by omega⟩
      rintro ⟨ok, n⟩ ⟨hrs, hnl⟩
      try dsimp only at *
      refine t_seq ?_
      refine t_seq ?_
      refine t_region ?_
      refine l_q rfl rfl rfl (q_move rfl rfl) ?_
      refine l_nil ?_
      refine n_then ?_
      refine t_cond rfl (fun hc7 => ?_) (fun hc7 => ?_)
      · skip
        refine t_seq ?_
        refine t_region ?_
        refine l_q rfl rfl rfl (q_move rfl rfl) ?_
        refine l_q rfl rfl rfl (q_move rfl rfl) ?_
        refine l_q rfl rfl rfl (q_add64 rfl rfl rfl (by omega)) ?_
        refine l_q rfl rfl rfl (q_assign rfl rfl) ?_
        refine l_nil ?_
        refine n_then ?_
        refine t_seq ?_
        refine t_region ?_
        refine l_q rfl rfl rfl (q_move rfl rfl) ?_
        refine l_q rfl rfl rfl (q_add64 rfl rfl rfl (by omega)) ?_
        refine l_q rfl rfl rfl (q_assign rfl rfl) ?_
        refine l_nil ?_
        refine n_then ?_
        refine t_exit ?_
        refine n_exit_then ?_
        refine n_exit_block ?_
        have hpk := hrs.2 hc7
        have h3 := hrs.1 hpk.1 hpk.2
        refine n_roundE ((i + n, k + 1, sb, sa, fr)) ?_ ?_ (sub_cons rfl (sub_cons rfl (sub_cons rfl (sub_cons rfl sub_nil)))) (sub_cons rfl (sub_cons rfl sub_nil)) (fun _ h => by try dsimp only; exact subC_st h)
        · try dsimp only
          have h4 := hm.one (List.ne_nil_of_length_pos (by rw [List.length_drop]; omega)) hst (List.ne_nil_of_length_pos (by rw [List.length_drop]; omega)) (by rw [nth_drop0, h3.1]; exact hc7)
          rw [nth_drop0, h3.1, List.drop_drop] at h4
          exact ⟨h3.2.2, by omega, hfr, hsa, h4, (fun h => by have := hfk h; omega), hsp⟩
        · try dsimp only
          exact Nat.add_lt_add_left (by omega) _
      · skip
        refine t_skip ?_
        refine n_then ?_
        refine t_seq ?_
        refine t_seq ?_
        refine t_qreg ?_
        refine s_q rfl rfl rfl (q_move rfl rfl) ?_
        refine s_q rfl rfl rfl (q_lss rfl rfl rfl) ?_
        refine s_q rfl rfl rfl (q_move rfl rfl) ?_
        refine s_or2 4 2 76 81 80 _ _ rfl rfl rfl rfl rfl rfl (fun h81 => by
            try simp at h81
            refine s_g rfl rfl rfl rfl rfl rfl (q_move rfl rfl) ?_
            refine s_g rfl rfl rfl rfl rfl rfl (q_move rfl rfl) ?_
            refine s_g rfl rfl rfl rfl rfl rfl (q_len_str rfl Try.underlying9 rfl) ?_
            refine s_g rfl rfl rfl rfl rfl rfl (q_geq rfl rfl rfl) ?_
            exact s_val rfl
          ) (wanted_n rfl) rfl rfl rfl ?_
        refine s_done ?_
        refine n_then ?_
        refine t_cond rfl (fun hc8 => ?_) (fun hc8 => ?_)
        · skip
          have h8 : (decide ((if sb then (sa : Int) else -1) < 0) || decide ((s.length : Int) ≤ (fr : Int))) = true := hc8
          have hstk : Mt (p.drop i) (s.drop k) = false := by
            refine Mt_stuck ?_ hst fun h1 h2 => ?_
            · rintro ⟨h1, h2⟩
              rw [List.drop_eq_nil_iff] at h1 h2
              omega
            · have h3 := List.length_pos_iff.2 h1
              have h4 := List.length_pos_iff.2 h2
              rw [List.length_drop] at h3 h4
              rw [nth_drop0, (hrs.1 (by omega) (by omega)).1]
              exact hc7
          refine t_seq ?_
          refine t_region ?_
          refine l_q rfl rfl rfl (q_assign rfl rfl) ?_
          refine l_nil ?_
          refine n_then ?_
          refine t_ret ?_
          refine n_ret_then ?_
          refine n_ret_block ?_
          refine n_ret_then ?_
          refine n_ret_block ?_
          refine n_ret1 rfl rfl (fun w' hw => ?_)
          -- leaf 1
          refine ⟨?_, hw.below⟩
          rw [hm.fail hstk]
          rw [Bool.or_eq_true, decide_eq_true_eq, decide_eq_true_eq] at h8
          rcases h8 with h | h
          · left; cases sb; rfl; rw [if_pos rfl] at h; omega
          · right; exact List.drop_of_length_le (by omega)
        · skip
          have h8 : (decide ((if sb then (sa : Int) else -1) < 0) || decide ((s.length : Int) ≤ (fr : Int))) = false := hc8
          have hstk : Mt (p.drop i) (s.drop k) = false := by
            refine Mt_stuck ?_ hst fun h1 h2 => ?_
            · rintro ⟨h1, h2⟩
              rw [List.drop_eq_nil_iff] at h1 h2
              omega
            · have h3 := List.length_pos_iff.2 h1
              have h4 := List.length_pos_iff.2 h2
              rw [List.length_drop] at h3 h4
              rw [nth_drop0, (hrs.1 (by omega) (by omega)).1]
              exact hc7
          rw [Bool.or_eq_false_iff, decide_eq_false_iff_not, decide_eq_false_iff_not] at h8
          have hsb : sb = true := by
            cases sb
            · exact absurd (by simp) h8.1
            · rfl
          have hfs : fr < s.length := by omega
          subst hsb
          rw [if_pos rfl]
          refine t_skip ?_
          refine n_then ?_
          refine t_seq ?_
          refine t_region ?_
          refine l_q rfl rfl rfl (q_move rfl rfl) ?_
          refine l_q rfl rfl rfl (q_add64 rfl rfl rfl (by omega)) ?_
          refine l_q rfl rfl rfl (q_assign rfl rfl) ?_
          refine l_nil ?_
          refine n_then ?_
          refine t_region ?_
          refine l_q rfl rfl rfl (q_move rfl rfl) ?_
          refine l_q rfl rfl rfl (q_add64 rfl rfl rfl (by omega)) ?_
          refine l_q rfl rfl rfl (q_move rfl rfl) ?_
          refine l_q rfl rfl rfl (q_assign rfl rfl) ?_
          refine l_q rfl rfl rfl (q_assign rfl rfl) ?_
          refine l_nil ?_
          refine n_block ?_
          refine n_roundE ((sa + 1, fr + 1, true, sa, fr + 1)) ?_ ?_ (sub_cons rfl (sub_cons rfl (sub_cons rfl (sub_cons rfl sub_nil)))) (sub_cons rfl (sub_cons rfl sub_nil)) (fun _ h => by try dsimp only; exact subC_st h)
          · try dsimp only
            have h5 := hm.back hstk (List.ne_nil_of_length_pos (by rw [List.length_drop]; omega))
            rw [List.drop_drop] at h5
            exact ⟨hsp rfl, by omega, by omega, hsa, h5, fun _ => Nat.le_refl _, hsp⟩
          · try dsimp only
            rw [if_pos rfl, if_pos rfl]
            exact mu_step (by omega) (by omega) (by omega) _ (Nat.zero_le _)
end Go.Tri
