/-
  The statement: LexTokens.
-/
import Derived.Test.YtfnmioggkmkmcaaDoorLB2
import Derived.Test.YtfnmioggkmkmcaaDoorLB6
import Derived.Test.YtfnmioggkmkmcaaDoorLB7
namespace Go.Tri
open Go.Proofs Go.RowKit
theorem yC_at {l : List (Tok × Nat)} {n : Nat} {vs : List Value} (h : (l.map yC)[n]? = some vs) : ∃ x, l[n]? = some x ∧ vs = yC x := by
  rw [List.getElem?_map] at h
  cases hx : l[n]? with
  | none => rw [hx] at h; cases h
  | some x => rw [hx] at h; cases h; exact ⟨x, rfl, rfl⟩
theorem yC_two {l : List (Tok × Nat)} : ∀ vs ∈ l.map yC, vs.length = 2 := fun vs h => by
  obtain ⟨x, _, rfl⟩ := List.mem_map.1 h; rfl
set_option maxRecDepth 10000 in
theorem lexTokens_pure (s : List UInt8) (stop : Int) (w : World) (hs : s.length ≤ 1048576) (hG : EnvI (look w)) : Pure Tryd.prog 6 [str s, .int .i64 stop] w (.bool true) := by
  refine enterMN Tryd.func6 rfl Tryd.ntmps6 rfl (St.start w (look w) (Le.refl _)) ?_
  refine t_seq ?_
  refine t_region ?_
  refine l_e rfl rfl rfl (e_box rfl rfl (by first | exact One.cells (by assumption) | exact One.cells hone | rfl)) ?_
  rintro _ _ _ ⟨b3, rfl, rfl, rfl⟩
  refine l_e rfl rfl rfl (e_alloc rfl ti4 rfl) ?_
  rintro _ _ _ ⟨b4, rfl, rfl, rfl⟩
  refine l_nil ?_
  refine n_then ?_
  refine t_seq ?_
  refine t_seq ?_
  refine t_region ?_
  refine l_q rfl rfl rfl (quiet_call rfl rfl rfl Tryd.func9 (by kernel_rfl) rfl ((fun w hw => awake_pure w (hG.mono hw.le)))) ?_
  refine l_q rfl rfl rfl (q_not rfl rfl) ?_
  refine l_nil ?_
  refine n_then ?_
  refine t_cond rfl (fun hc0 => ?_) (fun hc0 => ?_)
  · skip
    try simp at hc0
  · skip
    try simp at hc0
    refine t_skip ?_
    refine n_then ?_
    refine t_seq ?_
    refine t_region ?_
    refine l_e rfl rfl rfl (e_alloc rfl ti23 rfl) ?_
    rintro _ _ _ ⟨b5, rfl, rfl, rfl⟩
    refine l_nil ?_
    refine n_then ?_
    refine t_seq ?_
    refine t_region ?_
    refine l_e rfl rfl rfl (e_alloc rfl ti24 rfl) ?_
    rintro _ _ _ ⟨b6, rfl, rfl, rfl⟩
    refine l_e0 rfl rfl (e_storeS rfl ti24 rfl rfl (by first | exact ⟨rfl, rfl⟩ | assumption | exact hone) rfl (by first | (simp only [List.set_cons_succ, List.set_cons_zero]; rfl) | rfl)) ?_
    rintro _ _ _ ⟨rfl, rfl⟩
    refine l_nil ?_
    refine n_then ?_
    refine t_cutE (ι := Value × List Tok × Nat) (fun zz => WantP s zz.2.1 zz.2.2) (fun zz => []) [(0, _), (1, _), (3, _), (4, _), (16, _), (5, _), (6, _)] (fun zz => look w) (fun zz => (row b5 23 [zz.1] :: tvec 28 5 tokC zz.1 zz.2.1 :: row b6 24 [.int .i64 (zz.2.2 : Int)] :: row b4 4 [.bool false] :: row b3 3 [.int .i64 stop] :: [])) (sub_cons rfl (sub_cons rfl (sub_cons rfl (sub_cons rfl (sub_cons rfl (sub_cons rfl (sub_cons rfl sub_nil))))))) ?_ ?_
    · skip
      refine t_seq ?_
      refine t_region ?_
      refine l_q rfl rfl rfl (q_assign rfl rfl) ?_
      refine l_nil ?_
      refine n_then ?_
      refine t_block ?_
      refine t_loopE (ι := Nat × Value × List Tok) (fun zz => zz.1 ≤ s.length ∧ zz.2.2.length ≤ zz.1 ∧ ysP s 0 = zz.2.2.map (fun t => (t, 0)) ++ ysP s zz.1) (fun zz => s.length - zz.1) (fun zz => [(7, .int .i64 (zz.1 : Int))]) [(0, _), (1, _), (3, _), (4, _), (16, _), (5, _), (6, _)] (fun zz => look w) (fun zz => (row b5 23 [zz.2.1] :: tvec 28 5 tokC zz.2.1 zz.2.2 :: row b6 24 [.int .i64 0] :: row b4 4 [.bool false] :: row b3 3 [.int .i64 stop] :: [])) (0, .slice none 0 0, []) ?_ (sub_cons rfl sub_nil) (sub_cons rfl (sub_cons rfl (sub_cons rfl (sub_cons rfl (sub_cons rfl (sub_cons rfl (sub_cons rfl sub_nil))))))) (fun _ h => subC_st (st_nilT 28 5 tokC h)) ?_
      · try dsimp only
        exact ⟨Nat.zero_le _, Nat.zero_le _, rfl⟩
      rintro ⟨i, v, W⟩ ⟨hi, hW, hY⟩
      try dsimp only at *
      refine t_block ?_
      refine t_seq ?_
      refine t_region ?_
      refine l_q rfl rfl rfl (q_move rfl rfl) ?_
      refine l_q rfl rfl rfl (q_move rfl rfl) ?_
      refine l_e rfl rfl rfl (eff_call rfl rfl rfl Tryd.func10 (by kernel_rfl) rfl (fun w hw => line_calls (s) (i) _ _ _ w (by omega) (hG) hw)) ?_
      rintro _ J20 _ ⟨hJ20, rfl, vl20, rfl, hvl20⟩
      obtain ⟨lv, hlv⟩ : ∃ lv, lv = lineP s i := ⟨_, rfl⟩
      rw [← hlv] at hvl20 ⊢
      refine l_q rfl rfl rfl (q_move rfl rfl) ?_
      refine l_q rfl rfl rfl (q_extract rfl rfl rfl) ?_
      refine l_q rfl rfl rfl (q_extract rfl rfl rfl) ?_
      refine l_q rfl rfl rfl (q_extract rfl rfl rfl) ?_
      refine l_q rfl rfl rfl (q_extract rfl rfl rfl) ?_
      refine l_q rfl rfl rfl (q_assign rfl rfl) ?_
      refine l_q rfl rfl rfl (q_assign rfl rfl) ?_
      refine l_q rfl rfl rfl (q_assign rfl rfl) ?_
      refine l_q rfl rfl rfl (q_assign rfl rfl) ?_
      refine l_nil ?_
      refine n_then ?_
      refine t_seq ?_
      refine t_seq ?_
      refine t_region ?_
      refine l_q rfl rfl rfl (q_move rfl rfl) ?_
      refine l_q rfl rfl rfl (q_neq rfl rfl rfl) ?_
      refine l_nil ?_
      refine n_then ?_
      refine t_cond rfl (fun hc1 => ?_) (fun hc1 => ?_)
      · skip
        try simp at hc1
        have he : lv.err ≠ 0 := by omega
        have hys := ysP_err (s := s) (i := i) (by rw [← hlv]; exact he)
        rw [← hlv] at hys
        refine t_seq ?_
        refine t_region ?_
        refine l_q rfl rfl rfl (q_move rfl rfl) ?_
        refine l_e0 rfl rfl (e_storeS rfl ti24 rfl rfl (by first | exact ⟨rfl, rfl⟩ | assumption | exact hone) rfl (by first | (simp only [List.set_cons_succ, List.set_cons_zero]; rfl) | rfl)) ?_
        rintro _ _ _ ⟨rfl, rfl⟩
        refine l_heap (H' := row b6 24 [.int .i64 (lv.err : Int)] :: _) ?_ (fun _ h => h)
        refine l_nil ?_
        refine n_then ?_
        refine t_seq ?_
        refine t_region ?_
        refine l_q rfl rfl rfl (q_load_row rfl Tryd.underlying23 rfl rfl (by rfl)) ?_
        refine l_q rfl rfl rfl (q_build (pl := [(_, _), (_, _), (_, _), (_, _), (_, _)]) (cs := (tokC tok0).toArray) rfl Tryd.underlying28 ti28 ⟨rfl, ⟨_, _, ti3⟩, rfl, ⟨_, _, ti9⟩, rfl, ⟨_, _, ti3⟩, rfl, ⟨_, _, ti9⟩, rfl, ⟨_, _, ti4⟩, trivial⟩ rfl rfl) ?_
        refine l_e rfl rfl rfl (e_buildSlice1 rfl Tryd.underlying23 ti28 rfl rfl rfl (by first | exact One.cells (by assumption) | exact One.cells hone | rfl) rfl) ?_
        rintro _ _ _ ⟨b30, rfl, rfl, rfl⟩
        refine l_e rfl rfl rfl (e_appendT (f := tokC) (c := tok0) rfl Tryd.underlying23 ti28 rfl rfl rfl rfl rfl rfl rfl (by first | exact tokC_ones _ | exact byC_ones _ | exact chC_ones _ | exact pcC_ones _ | simp [Value.oneCell', str, u8] | exact ones1 (by assumption)) (by simp only [maxLen]; omega) (by omega)) ?_
        rintro v31 _ _ ⟨rfl, rfl⟩
        refine l_one v31 (fun hone => ?_)
        refine l_e0 rfl rfl (e_storeS rfl ti23 rfl rfl (by first | exact ⟨rfl, rfl⟩ | assumption | exact hone) rfl (by first | (simp only [List.set_cons_succ, List.set_cons_zero]; rfl) | rfl)) ?_
        rintro _ _ _ ⟨rfl, rfl⟩
        refine l_heap (I' := look w) ?_ (fun _ h => h.less hJ20)
        refine l_nil ?_
        refine n_then ?_
        refine t_exit ?_
        refine n_exit_then ?_
        refine n_exit_other rfl ?_
        refine n_exit_then ?_
        refine n_exit_block ?_
        refine n_cut ((v31, W ++ [tok0], lv.err)) ?_ (sub_nil) (sub_cons rfl (sub_cons rfl (sub_cons rfl (sub_cons rfl (sub_cons rfl (sub_cons rfl (sub_cons rfl sub_nil))))))) (fun _ h => by try dsimp only; exact subC_st h)
        · try dsimp only
          exact want_err (by rw [hY, hys]) (by omega)
      · skip
        try simp at hc1
        have he : lv.err = 0 := by omega
        have hys := ysP_ok (s := s) hi (by rw [← hlv]; exact he)
        have hff := line_fin (s := s) hi (by rw [← hlv]; exact he)
        rw [← hlv] at hys hff
        obtain ⟨hf1, hf2, hf3, hf4⟩ := hff
        refine t_skip ?_
        refine n_then ?_
        refine t_seq ?_
        refine t_region ?_
        refine l_q rfl rfl rfl (q_load_row rfl Tryd.underlying23 rfl rfl (by rfl)) ?_
        refine l_q rfl rfl rfl (q_move rfl rfl) ?_
        refine l_e rfl rfl rfl (e_appendSl (f := tokC) (l := W) rfl Tryd.underlying23 ti28 rfl rfl rfl rfl (hvl20) rfl (fun _ => rfl) tokC_ones (by simp only [maxLen]; omega) (by omega)) ?_
        rintro v34 _ _ ⟨rfl, rfl⟩
        refine l_one v34 (fun hone => ?_)
        refine l_e0 rfl rfl (e_storeS rfl ti23 rfl rfl (by first | exact ⟨rfl, rfl⟩ | assumption | exact hone) rfl (by first | (simp only [List.set_cons_succ, List.set_cons_zero]; rfl) | rfl)) ?_
        rintro _ _ _ ⟨rfl, rfl⟩
        refine l_heap (I' := look w) ?_ (fun _ h => h.less hJ20)
        refine l_nil ?_
        refine n_then ?_
        refine t_seq ?_
        refine t_seq ?_
        refine t_qreg ?_
        refine s_q rfl rfl rfl (q_move rfl rfl) ?_
        refine s_q rfl rfl rfl (q_move rfl rfl) ?_
        refine s_q rfl rfl rfl (q_leq rfl rfl rfl) ?_
        refine s_q rfl rfl rfl (q_move rfl rfl) ?_
        refine s_or2 4 3 38 43 42 _ _ rfl rfl rfl rfl rfl rfl (fun h43 => by
            try simp at h43
            refine s_g rfl rfl rfl rfl rfl rfl (q_move rfl rfl) ?_
            refine s_g rfl rfl rfl rfl rfl rfl (q_move rfl rfl) ?_
            refine s_g rfl rfl rfl rfl rfl rfl (q_len_str rfl Tryd.underlying9 rfl) ?_
            refine s_g rfl rfl rfl rfl rfl rfl (q_geq rfl rfl rfl) ?_
            exact s_val rfl
          ) (wanted_n rfl) rfl rfl rfl ?_
        refine s_done ?_
        refine n_then ?_
        refine t_cond rfl (fun hc2 => ?_) (fun hc2 => ?_)
        · skip
          have h2 := hc2
          rw [Bool.or_eq_true, decide_eq_true_eq, decide_eq_true_eq] at h2
          have hfe : lv.fin = s.length := by omega
          refine t_exit ?_
          refine n_exit_then ?_
          refine n_exit_other rfl ?_
          refine n_exit_then ?_
          refine n_exit_block ?_
          refine n_cut ((v34, W ++ lv.toks, 0)) ?_ (sub_nil) (sub_cons rfl (sub_cons rfl (sub_cons rfl (sub_cons rfl (sub_cons rfl (sub_cons rfl (sub_cons rfl sub_nil))))))) (fun _ h => by try dsimp only; exact subC_st h)
          · try dsimp only
            rw [if_pos hfe, List.append_nil] at hys
            exact want_ok (by rw [hY, hys, List.map_append]) (by rw [List.length_append]; omega)
        · skip
          have h2 := hc2
          rw [Bool.or_eq_false_iff, decide_eq_false_iff_not, decide_eq_false_iff_not] at h2
          refine t_skip ?_
          refine n_then ?_
          refine t_region ?_
          refine l_q rfl rfl rfl (q_move rfl rfl) ?_
          refine l_q rfl rfl rfl (q_assign rfl rfl) ?_
          refine l_nil ?_
          refine n_block ?_
          refine n_roundE ((lv.fin, v34, W ++ lv.toks)) ?_ ?_ (sub_cons rfl sub_nil) (sub_cons rfl (sub_cons rfl (sub_cons rfl (sub_cons rfl (sub_cons rfl (sub_cons rfl (sub_cons rfl sub_nil))))))) (fun _ h => by try dsimp only; exact subC_st h)
          · try dsimp only
            have hfe : ¬ lv.fin = s.length := by omega
            rw [if_neg hfe] at hys
            exact ⟨hf2, by rw [List.length_append]; omega, by rw [hY, hys, List.map_append, List.append_assoc]⟩
          · try dsimp only
            show s.length - lv.fin < s.length - i
            omega
    rintro ⟨v, want, er⟩ hWP
    try dsimp only at *
    obtain ⟨hwl, hwb, hwx⟩ := hWP
    refine t_seq ?_
    refine t_freezeT (f := tokC) (l := want) v (fun _ => rfl) (fun Jw hJw hvw => ?_)
    refine t_region ?_
    refine l_e rfl rfl rfl (e_alloc rfl ti3 rfl) ?_
    rintro _ _ _ ⟨b12, rfl, rfl, rfl⟩
    refine l_e0 rfl rfl (e_storeS rfl ti3 rfl rfl (by first | exact ⟨rfl, rfl⟩ | assumption | exact hone) rfl (by first | (simp only [List.set_cons_succ, List.set_cons_zero]; rfl) | rfl)) ?_
    rintro _ _ _ ⟨rfl, rfl⟩
    refine l_nil ?_
    refine n_then ?_
    refine t_seq ?_
    refine t_seq ?_
    refine t_region ?_
    refine l_q rfl rfl rfl (q_move rfl rfl) ?_
    refine l_e rfl rfl rfl (eff_call rfl rfl rfl Tryd.func12 (by kernel_rfl) rfl (fun w hw => tokens_calls s _ _ _ w hw)) ?_
    rintro _ J46 _ ⟨hJ46, rfl, c46, rfl, hc46⟩
    refine l_nil ?_
    refine n_then ?_
    refine t_block ?_
    refine t_range (γ := Nat × Bool) (tokens_iter s c46 (by omega)) rfl rfl Tryd.func22 (by kernel_rfl) rfl (fun nn zz => zz.1 = nn ∧ zz.2 = false) (fun cc zz => (cc = .ret ∧ zz.2 = true)) [] (fun zz TT => (row b12 3 [.int .i64 (zz.1 : Int)] :: row b5 23 [v] :: row b6 24 [.int .i64 (er : Int)] :: row b4 4 [.bool zz.2] :: row b3 3 [.int .i64 stop] :: TT)) (fun _ _ => rfl) (fun zz => J46) [(0, _), (1, _), (3, _), (4, _), (16, _), (5, _), (6, _), (12, _), (46, _)] (sub_cons rfl (sub_cons rfl (sub_cons rfl (sub_cons rfl (sub_cons rfl (sub_cons rfl (sub_cons rfl (sub_cons rfl (sub_cons rfl sub_nil))))))))) (0, false) ?_ ?_ ?_ ?_ rfl ?_ ?_ ?_ ?_
    · exact ⟨rfl, rfl⟩
    · exact ⟨hc46, hG.mono (hJw.trans hJ46)⟩
    · exact Le.refl _
    · exact fun _ h => subC_st h
    · exact yC_two
    · intro bl ready busy done dfr nn vs gg w0r FF hi hinv hrs hbz
      obtain ⟨n, rb⟩ := gg
      obtain ⟨hn, hrb⟩ := hinv
      try dsimp only at *
      obtain ⟨x, hx, rfl⟩ := yC_at hi
      subst hn
      subst hrb
      obtain ⟨hx1, hx2⟩ := hwx _ _ hx
      have hnw : n < want.length := by
        rw [hwl]
        rcases Nat.lt_or_ge n (ysP s 0).length with h | h
        · exact h
        · rw [List.getElem?_eq_none h] at hx; cases hx
      refine t_seq ?_
      refine t_region ?_
      refine l_e rfl rfl rfl (e_alloc rfl ti28 rfl) ?_
      rintro _ _ _ ⟨b13, rfl, rfl, rfl⟩
      refine l_e0 rfl rfl ((by first | exact e_store_all rfl ti28 rfl rfl rfl (by first | exact chC_ones _ | exact pcC_ones _ | exact tokC_ones _ | simp [Value.oneCell', str, u8]) rfl | exact e_store_agg rfl ti28 rfl rfl rfl (by first | exact chC_ones _ | exact pcC_ones _ | exact tokC_ones _ | simp [Value.oneCell', str, u8]) rfl)) ?_
      rintro _ _ _ ⟨rfl, rfl⟩
      refine l_nil ?_
      refine n_then ?_
      refine t_region ?_
      refine l_q rfl rfl rfl (q_assign rfl rfl) ?_
      refine l_nil ?_
      refine n_begin (by rfl) hrs ?_
      refine t_block ?_
      refine t_seq ?_
      refine t_seq ?_
      refine t_qdraw mo (by kernel_rfl) (fun _ _ _ _ _ h => h) ?_
      refine s_q rfl rfl rfl (q_load_row rfl Tryd.underlying3 rfl rfl (by rfl)) ?_
      refine s_q rfl rfl rfl (q_load_row rfl Tryd.underlying23 rfl rfl (by rfl)) ?_
      refine s_q rfl rfl rfl ((by first | exact q_lenV rfl Tryd.underlying23 rfl | exact q_len rfl Tryd.underlying23 rfl (Sl.lenOf (hvw.mono hJ46) (List.length_map _)))) ?_
      refine s_q rfl rfl rfl (q_geq rfl rfl rfl) ?_
      refine s_q rfl rfl rfl (q_move rfl rfl) ?_
      refine s_or2 6 4 53 60 59 _ _ rfl rfl rfl rfl rfl rfl (fun h60 => by
          try simp at h60
          refine s_g rfl rfl rfl rfl rfl rfl ((by first | exact q_load_rowA rfl Tryd.underlying28 ti28 rfl rfl rfl | exact q_load_agg rfl Tryd.underlying28 ti28 rfl rfl (rds_tok (i := n) (hvw.mono hJ46) (by omega)))) ?_
          refine s_g rfl rfl rfl rfl rfl rfl (q_load_row rfl Tryd.underlying23 rfl rfl (by rfl)) ?_
          refine s_g rfl rfl rfl rfl rfl rfl (q_load_row rfl Tryd.underlying3 rfl rfl (by rfl)) ?_
          refine s_g rfl rfl rfl rfl rfl rfl ((by first | exact q_indexAddrVN rfl Tryd.underlying23 ti28 rfl rfl (by omega) | exact q_indexAddrN rfl Tryd.underlying23 ti28 rfl rfl (Sl.shape (hvw.mono hJ46) (List.length_map _)) (by omega) | exact q_indexAddrV rfl Tryd.underlying23 ti28 rfl rfl (by omega) | exact q_indexAddr rfl Tryd.underlying23 ti28 rfl rfl (Sl.shape (hvw.mono hJ46) (List.length_map _)) (by omega))) ?_
          refine s_g rfl rfl rfl rfl rfl rfl ((by first | exact q_load_rowA rfl Tryd.underlying28 ti28 rfl rfl rfl | exact q_load_agg rfl Tryd.underlying28 ti28 rfl rfl (rds_tok (i := n) (hvw.mono hJ46) (by omega)))) ?_
          refine s_g rfl rfl rfl rfl rfl rfl (q_neq_st rfl (by kernel_rfl) rfl rfl (eqTok _ _)) ?_
          exact s_val rfl
        ) (wanted_n rfl) rfl rfl rfl ?_
      refine s_q rfl rfl rfl (q_move rfl rfl) ?_
      refine s_or2 14 12 61 76 75 _ _ rfl rfl rfl rfl rfl rfl (fun h76 => by
          try simp at h76
          refine s_g rfl rfl rfl rfl rfl rfl (q_move rfl rfl) ?_
          refine s_g rfl rfl rfl rfl rfl rfl (q_neq rfl rfl rfl) ?_
          refine s_g rfl rfl rfl rfl rfl rfl (q_move rfl rfl) ?_
          refine s_and2 10 15 64 75 74 _ _ rfl rfl rfl rfl rfl rfl (fun h75 => by
              try simp at h75
              refine s_g rfl rfl rfl rfl rfl rfl (q_load_row rfl Tryd.underlying3 rfl rfl (by rfl)) ?_
              refine s_g rfl rfl rfl rfl rfl rfl (q_load_row rfl Tryd.underlying23 rfl rfl (by rfl)) ?_
              refine s_g rfl rfl rfl rfl rfl rfl ((by first | exact q_lenV rfl Tryd.underlying23 rfl | exact q_len rfl Tryd.underlying23 rfl (Sl.lenOf (hvw.mono hJ46) (List.length_map _)))) ?_
              refine s_g rfl rfl rfl rfl rfl rfl (q_sub64 rfl rfl rfl (by omega)) ?_
              refine s_g rfl rfl rfl rfl rfl rfl (q_neq rfl rfl rfl) ?_
              refine s_g rfl rfl rfl rfl rfl rfl (q_move rfl rfl) ?_
              refine s_or2 3 21 70 74 73 _ _ rfl rfl rfl rfl rfl rfl (fun h74 => by
                  try simp at h74
                  refine s_g rfl rfl rfl rfl rfl rfl (q_move rfl rfl) ?_
                  refine s_g rfl rfl rfl rfl rfl rfl (q_load_row rfl Tryd.underlying24 rfl rfl (by rfl)) ?_
                  refine s_g rfl rfl rfl rfl rfl rfl (q_neq rfl rfl rfl) ?_
                  exact s_val rfl
                ) (wanted_g rfl rfl rfl rfl) rfl rfl rfl ?_
              exact s_val rfl
            ) (wanted_g rfl rfl rfl rfl) rfl rfl rfl ?_
          exact s_val rfl
        ) (wanted_n rfl) rfl rfl rfl ?_
      refine s_done ?_
      refine n_then ?_
      refine t_cond rfl (fun hc3 => ?_) (fun hc3 => ?_)
      · skip
        exfalso
        have h3 := hc3
        rw [hx1] at h3
        simp at h3
        have hw2 := hx2
        omega
      · skip
        refine t_skip ?_
        refine n_then ?_
        refine t_seq ?_
        refine t_region ?_
        refine l_q rfl rfl rfl (q_load_row rfl Tryd.underlying3 rfl rfl (by rfl)) ?_
        refine l_q rfl rfl rfl (q_add64 rfl rfl rfl (by omega)) ?_
        refine l_e0 rfl rfl (e_storeS rfl ti3 rfl rfl (by first | exact ⟨rfl, rfl⟩ | assumption | exact hone) rfl (by first | (simp only [List.set_cons_succ, List.set_cons_zero]; rfl) | rfl)) ?_
        rintro _ _ _ ⟨rfl, rfl⟩
        refine l_heap (H' := row b12 3 [.int .i64 ((n + 1 : Nat) : Int)] :: _) ?_ (fun _ h => h)
        refine l_nil ?_
        refine n_then ?_
        refine t_seq ?_
        refine t_region ?_
        refine l_q rfl rfl rfl (q_load_row rfl Tryd.underlying3 rfl rfl (by rfl)) ?_
        refine l_q rfl rfl rfl (q_load_row rfl Tryd.underlying3 rfl rfl (by rfl)) ?_
        refine l_q rfl rfl rfl (q_eql rfl rfl rfl) ?_
        refine l_nil ?_
        refine n_then ?_
        refine t_cond rfl (fun hc4 => ?_) (fun hc4 => ?_)
        · skip
          try simp at hc4
          refine t_seq ?_
          refine t_region ?_
          refine l_e0 rfl rfl (e_storeS rfl ti4 rfl rfl (by first | exact ⟨rfl, rfl⟩ | assumption | exact hone) rfl (by first | (simp only [List.set_cons_succ, List.set_cons_zero]; rfl) | rfl)) ?_
          rintro _ _ _ ⟨rfl, rfl⟩
          refine l_nil ?_
          refine n_then ?_
          refine t_ret ?_
          refine n_ret_block ?_
          refine n_rret (fun w' hw' => .inr ⟨rfl, .ret, ((n + 1, true)), ?_, ?_, ?_⟩)
          · try dsimp only
            exact ⟨rfl, rfl⟩
          · exact Le.refl _
          · try dsimp only
            exact subC_st hw'
        · skip
          try simp at hc4
          refine t_skip ?_
          refine n_block ?_
          refine n_rnext (fun w' hw' => .inl ⟨rfl, ((n + 1, false)), ?_, ?_, ?_⟩)
          · try dsimp only
            exact ⟨rfl, rfl⟩
          · exact Le.refl _
          · try dsimp only
            exact subC_st hw'
    · skip
      intro bd gg hinv hle
      obtain ⟨n, rb⟩ := gg
      obtain ⟨hn, hrb⟩ := hinv
      try dsimp only at *
      rw [List.length_map] at hn
      refine n_block ?_
      refine n_then ?_
      refine t_seq ?_
      refine t_region ?_
      refine l_q rfl rfl rfl (q_load_row rfl Tryd.underlying3 rfl rfl (by rfl)) ?_
      refine l_q rfl rfl rfl (q_load_row rfl Tryd.underlying23 rfl rfl (by rfl)) ?_
      refine l_q rfl rfl rfl ((by first | exact q_lenV rfl Tryd.underlying23 rfl | exact q_len rfl Tryd.underlying23 rfl (Sl.lenOf (hvw.mono hJ46) (List.length_map _)))) ?_
      refine l_q rfl rfl rfl (q_eql rfl rfl rfl) ?_
      refine l_e0 rfl rfl (e_storeS rfl ti4 rfl rfl (by first | exact ⟨rfl, rfl⟩ | assumption | exact hone) rfl (by first | (simp only [List.set_cons_succ, List.set_cons_zero]; rfl) | rfl)) ?_
      rintro _ _ _ ⟨rfl, rfl⟩
      refine l_nil ?_
      refine n_then ?_
      refine t_ret ?_
      refine n_np_ret ?_
      refine n_retGM (bs := [bd]) (.inl rfl) rfl (by exact res_cell rfl Tryd.underlying4 rfl (by first | exact rd_rowI rfl) (res_nil)) (fun w' hw => ?_)
      -- leaf 0
      refine ⟨?_, (hw.less (hJw.trans hJ46)).below⟩
      rw [hn, hwl]
      simp
      rfl
    · skip
      intro bd cc gg hex hle
      obtain ⟨n, rb⟩ := gg
      obtain ⟨rfl, hrb⟩ := hex
      try dsimp only at *
      refine t_ret ?_
      refine n_ret_block ?_
      refine n_ret_then ?_
      refine n_np_ret ?_
      refine n_retGM (bs := [bd]) (.inl rfl) rfl (by exact res_cell rfl Tryd.underlying4 rfl (by first | exact rd_rowI rfl) (res_nil)) (fun w' hw => ?_)
      -- leaf 1
      refine ⟨?_, (hw.less (hJw.trans hJ46)).below⟩
      rw [hrb]
      rfl
end Go.Tri
