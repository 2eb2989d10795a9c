/-
  The statements walked: texts, stars, splits, brackets turned.
-/
import Derived.Test.YtlhjbemcapnmjaaPA11
namespace Go.Tri
open Go.Proofs Go.RowKit
theorem noBr_of {p : List Ch} (h : ∀ j, j < p.length → nth p j ch0 ≠ uq 91) : noBr p := fun c hc => by
  obtain ⟨i, hi, rfl⟩ := List.getElem_of_mem hc
  have := h i hi
  rwa [nth_eq hi] at this
theorem starIn_snoc {p : List Ch} {s : List UInt8} {i j : Nat} (h : i ≤ j) : starIn p s i (j + 1) = (starIn p s i j || Mt p ((s.drop i).take (j - i))) := by
  unfold starIn
  rw [range_any, decide_eq_true h, Bool.true_and]
theorem starAny_snoc (p : List Ch) (s : List UInt8) (i : Nat) : starAny p s (i + 1) = (starAny p s i || starIn p s i (s.length + 1)) := range_any _ _
theorem splitAny_snoc (p q : List Ch) (s : List UInt8) (i : Nat) : splitAny p q s (i + 1) = (splitAny p q s i || (Mt p (s.take i) && Mt q (s.drop i))) := range_any _ _
theorem any_one' (c : UInt8) : Mt (ofP [63]) [c] = true ∧ Mt (ofP [63]) ([c] ++ [c]) = false ∧ Mt (ofP [63]) [] = false := any_one c
set_option maxRecDepth 10000 in
theorem patternTexts_pure (s t : List UInt8) (w : World) (hs : s.length ≤ 4611686018427387904) (ht : t.length ≤ 4611686018427387904) : Pure Try.prog 8 [str s, str t] w (.bool true) := by
  have hol := ofP_len s.length s (Nat.le_refl _)
  have hpl : (plainP s).length = s.length := by simp [plainP]
  refine enter Try.func8 rfl Try.ntmps8 rfl (St.start w (look w) (Le.refl _)) ?_
  refine t_seq ?_
  refine t_region ?_
  refine l_q rfl rfl rfl (q_assign rfl rfl) ?_
  refine l_nil ?_
  refine n_then ?_
  refine t_seq ?_
  refine t_seq ?_
  refine t_region ?_
  refine l_q rfl rfl rfl (quiet_call rfl rfl rfl Try.func9 (by kernel_rfl) rfl ((fun w _ => awake_pure w))) ?_
  refine l_q rfl rfl rfl (q_not rfl rfl) ?_
  refine l_nil ?_
  refine n_then ?_
  refine t_cond rfl (fun hc0 => ?_) (fun hc0 => ?_)
  · skip
    try simp at hc0
  · skip
    try simp at hc0
    refine t_skip ?_
    refine n_then ?_
    refine t_seq ?_
    refine t_seq ?_
    refine t_qreg ?_
    refine s_q rfl rfl rfl (q_move rfl rfl) ?_
    refine s_q rfl rfl rfl (q_len_str rfl Try.underlying9 rfl) ?_
    refine s_q rfl rfl rfl (q_gtr rfl rfl rfl) ?_
    refine s_q rfl rfl rfl (q_move rfl rfl) ?_
    refine s_or2 3 3 11 15 14 _ _ rfl rfl rfl rfl rfl rfl (fun h15 => by
        try simp at h15
        refine s_g rfl rfl rfl rfl rfl rfl (q_move rfl rfl) ?_
        refine s_g rfl rfl rfl rfl rfl rfl (q_len_str rfl Try.underlying9 rfl) ?_
        refine s_g rfl rfl rfl rfl rfl rfl (q_gtr rfl rfl rfl) ?_
        exact s_val rfl
      ) (wanted_n rfl) rfl rfl rfl ?_
    refine s_done ?_
    refine n_then ?_
    refine t_cond rfl (fun hc1 => ?_) (fun hc1 => ?_)
    · skip
      refine t_seq ?_
      refine t_region ?_
      refine l_q rfl rfl rfl (q_assign rfl rfl) ?_
      refine l_nil ?_
      refine n_then ?_
      refine t_ret ?_
      refine n_ret_then ?_
      refine n_ret1 rfl rfl (fun w' hw => ?_)
      -- leaf 0
      exact ⟨rfl, hw.below⟩
    · skip
      have h1 : (decide ((400 : Int) < (s.length : Int)) || decide ((400 : Int) < (t.length : Int))) = false := hc1
      rw [Bool.or_eq_false_iff, decide_eq_false_iff_not, decide_eq_false_iff_not] at h1
      have h11 := h1.1
      have h12 := h1.2
      refine t_skip ?_
      refine n_then ?_
      refine t_seq ?_
      refine t_region ?_
      refine l_q rfl rfl rfl (q_move rfl rfl) ?_
      refine l_e rfl rfl rfl (eff_call rfl rfl rfl Try.func18 (by kernel_rfl) rfl (fun w hw => plain_calls s _ _ _ w (by omega) hw)) ?_
      rintro v17 J17 _ ⟨hJ17, rfl, hs17⟩
      refine l_q rfl rfl rfl (q_assign rfl rfl) ?_
      refine l_nil ?_
      refine n_then ?_
      refine t_seq ?_
      refine t_region ?_
      refine l_q rfl rfl rfl (q_move rfl rfl) ?_
      refine l_e rfl rfl rfl (eff_call rfl rfl rfl Try.func13 (by kernel_rfl) rfl (fun w hw => of_calls s _ _ _ w (by omega) hw)) ?_
      rintro v19 J19 _ ⟨hJ19, rfl, hs19⟩
      refine l_q rfl rfl rfl (q_move rfl rfl) ?_
      refine l_e rfl rfl rfl (eff_call rfl rfl rfl Try.func19 (by kernel_rfl) rfl (fun w hw => refOf_calls s _ _ _ w (by omega) hw)) ?_
      rintro v21 J21 _ ⟨hJ21, rfl, hs21⟩
      refine l_q rfl rfl rfl (quiet_call rfl rfl rfl Try.func17 (by kernel_rfl) rfl ((fun w hw => same_pure v19 v21 (ofP s) (ofP s) w (by omega) (by omega) ((hs19.mono hJ21).mono (Le.of_st hw)) (hs21.mono (Le.of_st hw))))) ?_
      refine l_q rfl rfl rfl (q_move rfl rfl) ?_
      refine l_split (t := 23) rfl (fun hs0 => ?_) (fun hs0 => ?_)
      · skip
        refine l_qg (wanted_g rfl rfl rfl rfl) rfl rfl (q_move rfl rfl) ?_
        refine l_qg (wanted_g rfl rfl rfl rfl) rfl rfl (q_move rfl rfl) ?_
        refine l_eg (wanted_g rfl rfl rfl rfl) rfl rfl (eff_call rfl rfl rfl Try.func20 (by kernel_rfl) rfl (fun w hw => refPlain_calls s _ _ _ w (by omega) hw)) ?_
        rintro v26 J26 _ ⟨hJ26, rfl, hs26⟩
        refine l_qg (wanted_g rfl rfl rfl rfl) rfl rfl (quiet_call rfl rfl rfl Try.func17 (by kernel_rfl) rfl ((fun w hw => same_pure v17 v26 (plainP s) (plainP s) w (by omega) (by omega) ((((hs17.mono hJ19).mono hJ21).mono hJ26).mono (Le.of_st hw)) (hs26.mono (Le.of_st hw))))) ?_
        refine l_quietHead 6 ?_
        refine s_q rfl rfl rfl (q_pick rfl rfl rfl rfl) ?_
        refine s_q rfl rfl rfl (q_move rfl rfl) ?_
        refine s_and2 3 11 29 33 32 _ _ rfl rfl rfl rfl rfl rfl (fun h33 => by
            try simp at h33
            refine s_g rfl rfl rfl rfl rfl rfl (q_move rfl rfl) ?_
            refine s_g rfl rfl rfl rfl rfl rfl (q_move rfl rfl) ?_
            refine s_g rfl rfl rfl rfl rfl rfl (quiet_call rfl rfl rfl Try.func12 (by kernel_rfl) rfl ((fun w hw => match_pure v17 (plainP s) s w (by omega) (by omega) ((((hs17.mono hJ19).mono hJ21).mono hJ26).mono (Le.of_st hw))))) ?_
            exact s_val rfl
          ) (wanted_n rfl) rfl rfl rfl ?_
        refine s_list ?_
        refine l_quietHead 9 ?_
        refine s_q rfl rfl rfl (q_move rfl rfl) ?_
        refine s_and2 7 16 34 42 41 _ _ rfl rfl rfl rfl rfl rfl (fun h42 => by
            try simp at h42
            refine s_g rfl rfl rfl rfl rfl rfl (q_move rfl rfl) ?_
            refine s_g rfl rfl rfl rfl rfl rfl (q_move rfl rfl) ?_
            refine s_g rfl rfl rfl rfl rfl rfl (quiet_call rfl rfl rfl Try.func12 (by kernel_rfl) rfl ((fun w hw => match_pure v17 (plainP s) t w (by omega) (by omega) ((((hs17.mono hJ19).mono hJ21).mono hJ26).mono (Le.of_st hw))))) ?_
            refine s_g rfl rfl rfl rfl rfl rfl (q_move rfl rfl) ?_
            refine s_g rfl rfl rfl rfl rfl rfl (q_move rfl rfl) ?_
            refine s_g rfl rfl rfl rfl rfl rfl (q_eql_str rfl rfl rfl) ?_
            refine s_g rfl rfl rfl rfl rfl rfl (q_eql_bool rfl Try.underlying4 rfl rfl) ?_
            exact s_val rfl
          ) (wanted_n rfl) rfl rfl rfl ?_
        refine s_list ?_
        refine l_quietHead 5 ?_
        refine s_q rfl rfl rfl (q_move rfl rfl) ?_
        refine s_and2 3 25 43 47 46 _ _ rfl rfl rfl rfl rfl rfl (fun h47 => by
            try simp at h47
            refine s_g rfl rfl rfl rfl rfl rfl (q_move rfl rfl) ?_
            refine s_g rfl rfl rfl rfl rfl rfl (quiet_call rfl rfl rfl Try.func15 (by kernel_rfl) rfl ((fun w hw => wild_pure v17 (plainP s) w (by omega) ((((hs17.mono hJ19).mono hJ21).mono hJ26).mono (Le.of_st hw))))) ?_
            refine s_g rfl rfl rfl rfl rfl rfl (q_not rfl rfl) ?_
            exact s_val rfl
          ) (wanted_n rfl) rfl rfl rfl ?_
        refine s_list ?_
        refine l_q rfl rfl rfl (q_assign rfl rfl) ?_
        refine l_nil ?_
        refine n_then ?_
        refine t_ret ?_
        refine n_ret1 rfl rfl (fun w' hw => ?_)
        -- leaf 1
        refine ⟨?_, (hw.less (((hJ17.trans hJ19).trans hJ21).trans hJ26)).below⟩
        simp [Mt_plain, wild_plain]
      · skip
        exact absurd hs0 (by simp)
set_option maxRecDepth 10000 in
theorem patternStars_pure (v : Value) (p : List Ch) (s : List UInt8) (w : World) (hp : p.length ≤ 4611686018427387904) (hs : s.length ≤ 4611686018427387904) (hv : Sl (look w) 2 v (p.map chC)) : Pure Try.prog 4 [v, str s] w (.bool true) := by
  refine enter Try.func4 rfl Try.ntmps4 rfl (St.start w (look w) (Le.refl _)) ?_
  refine t_seq ?_
  refine t_region ?_
  refine l_q rfl rfl rfl (q_assign rfl rfl) ?_
  refine l_nil ?_
  refine n_then ?_
  refine t_seq ?_
  refine t_seq ?_
  refine t_region ?_
  refine l_q rfl rfl rfl (quiet_call rfl rfl rfl Try.func9 (by kernel_rfl) rfl ((fun w _ => awake_pure w))) ?_
  refine l_q rfl rfl rfl (q_not rfl rfl) ?_
  refine l_nil ?_
  refine n_then ?_
  refine t_cond rfl (fun hc0 => ?_) (fun hc0 => ?_)
  · skip
    try simp at hc0
  · skip
    try simp at hc0
    refine t_skip ?_
    refine n_then ?_
    refine t_seq ?_
    refine t_seq ?_
    refine t_qreg ?_
    refine s_q rfl rfl rfl (q_move rfl rfl) ?_
    refine s_q rfl rfl rfl ((by first | exact q_lenV rfl Try.underlying22 rfl | exact q_len rfl Try.underlying22 rfl (Sl.lenOf hv (List.length_map _)))) ?_
    refine s_q rfl rfl rfl (q_gtr rfl rfl rfl) ?_
    refine s_q rfl rfl rfl (q_move rfl rfl) ?_
    refine s_or2 3 3 16 20 19 _ _ rfl rfl rfl rfl rfl rfl (fun h20 => by
        try simp at h20
        refine s_g rfl rfl rfl rfl rfl rfl (q_move rfl rfl) ?_
        refine s_g rfl rfl rfl rfl rfl rfl (q_len_str rfl Try.underlying9 rfl) ?_
        refine s_g rfl rfl rfl rfl rfl rfl (q_gtr rfl rfl rfl) ?_
        exact s_val rfl
      ) (wanted_n rfl) rfl rfl rfl ?_
    refine s_done ?_
    refine n_then ?_
    refine t_cond rfl (fun hc1 => ?_) (fun hc1 => ?_)
    · skip
      refine t_seq ?_
      refine t_region ?_
      refine l_q rfl rfl rfl (q_assign rfl rfl) ?_
      refine l_nil ?_
      refine n_then ?_
      refine t_ret ?_
      refine n_ret_then ?_
      refine n_ret1 rfl rfl (fun w' hw => ?_)
      -- leaf 0
      exact ⟨rfl, hw.below⟩
    · skip
      have h1 : (decide ((20 : Int) < (p.length : Int)) || decide ((20 : Int) < (s.length : Int))) = false := hc1
      rw [Bool.or_eq_false_iff, decide_eq_false_iff_not, decide_eq_false_iff_not] at h1
      have h11 := h1.1
      have h12 := h1.2
      refine t_skip ?_
      refine n_then ?_
      refine t_seq ?_
      refine t_region ?_
      refine l_q rfl rfl rfl (q_build (pl := [(_, _), (_, _)]) (cs := (chC (uq 42)).toArray) rfl Try.underlying29 ti29 ⟨rfl, ⟨_, _, ti5⟩, rfl, ⟨_, _, ti4⟩, trivial⟩ rfl rfl) ?_
      refine l_e rfl rfl rfl (e_alloc rfl ti29 rfl) ?_
      rintro _ _ _ ⟨b5, rfl, rfl, rfl⟩
      refine l_e0 rfl rfl ((by first | exact e_store_all rfl ti29 rfl rfl rfl (by first | exact chC_ones _ | exact pcC_ones _ | exact memC_ones _ | simp [Value.oneCell', str, u8]) rfl | exact e_store_agg rfl ti29 rfl rfl rfl (by first | exact chC_ones _ | exact pcC_ones _ | exact memC_ones _ | simp [Value.oneCell', str, u8]) rfl)) ?_
      rintro _ _ _ ⟨rfl, rfl⟩
      refine l_heap (H' := row b5 29 (chC (uq 42)) :: _) ?_ (fun _ h => h)
      refine l_nil ?_
      refine n_then ?_
      refine t_cutE (ι := Value) (fun zz => True) (fun zz => [(6, zz)]) [(0, _), (1, _), (4, _), (12, _), (20, _)] (fun zz => look w) (fun zz => [tvec 29 2 chC zz ([uq 42] ++ p ++ [uq 42])]) (sub_cons rfl (sub_cons rfl (sub_cons rfl (sub_cons rfl (sub_cons rfl sub_nil))))) ?_ ?_
      · skip
        refine t_draw [1, 3, 5, 6] [] [row b5 29 (chC (uq 42))] mo (by kernel_rfl) (fun _ _ _ _ _ h => h) ?_
        refine r_q0 0 (by kernel_rfl) rfl (Le.refl _) rfl rfl rfl (fun _ hI => (by first | exact q_load_rowA rfl Try.underlying29 ti29 rfl rfl rfl | exact q_load_agg rfl Try.underlying29 ti29 rfl rfl (rds_ch0 (i := k) hv (by omega)))) ?_
        refine r_q0 2 (by kernel_rfl) rfl (Le.refl _) rfl rfl rfl (fun _ hI => q_move rfl rfl) ?_
        refine r_q0 4 (by kernel_rfl) rfl (Le.refl _) rfl rfl rfl (fun _ hI => (by first | exact q_load_rowA rfl Try.underlying29 ti29 rfl rfl rfl | exact q_load_agg rfl Try.underlying29 ti29 rfl rfl (rds_ch0 (i := k) hv (by omega)))) ?_
        refine r_two 1 5 (by kernel_rfl) (by kernel_rfl) ?_ ?_
        · skip
          refine x_e 1 rfl rfl (Le.refl _) rfl rfl rfl (e_buildSlice1 rfl Try.underlying22 ti29 rfl rfl rfl (by first | exact One.cells (by assumption) | rfl) rfl) ?_
          rintro _ _ _ ⟨b23, rfl, rfl, rfl⟩
          refine ⟨Le.refl _, .inr SubC.sub, ?_⟩
          refine r_heap (H' := tvec 29 2 chC (.slice (some ⟨b23, 0, none⟩) 1 1) [uq 42] :: _) ?_ (fun _ h => st_rowVec h rfl (by decide))
          refine r_two 3 5 (by kernel_rfl) (by kernel_rfl) ?_ ?_
          · skip
            refine x_e 3 rfl rfl (Le.refl _) rfl rfl rfl (e_appendSl (f := chC) (l := [uq 42]) rfl Try.underlying22 ti29 rfl rfl rfl rfl (hv) rfl (fun _ => rfl) chC_ones (by simp only [maxLen, List.length_append, List.length_cons, List.length_nil]; omega) (by simp only [List.length_append, List.length_cons, List.length_nil]; omega)) ?_
            rintro v25 _ _ ⟨rfl, rfl⟩
            refine ⟨Le.refl _, .inr SubC.sub, ?_⟩
            refine r_e 5 (by kernel_rfl) (by kernel_rfl) rfl (Le.refl _) rfl rfl rfl (e_buildSlice1 rfl Try.underlying22 ti29 rfl rfl rfl (by first | exact One.cells (by assumption) | rfl) rfl) ?_
            rintro _ _ _ ⟨b27, rfl, rfl, rfl⟩
            refine ⟨Le.refl _, .inr SubC.sub, ?_⟩
            refine r_e 6 (by kernel_rfl) (by kernel_rfl) rfl (Le.refl _) rfl rfl rfl (e_appendT (f := chC) (l := [uq 42] ++ p) (c := uq 42) rfl Try.underlying22 ti29 rfl rfl rfl rfl rfl rfl rfl (by first | exact byC_ones _ | exact chC_ones _ | exact pcC_ones _ | simp [Value.oneCell', str, u8] | exact ones1 (by assumption)) (by simp only [maxLen, List.length_append, List.length_cons, List.length_nil]; omega) (by simp only [List.length_append, List.length_cons, List.length_nil]; omega)) ?_
            rintro v28 _ _ ⟨rfl, rfl⟩
            refine ⟨Le.refl _, .inr SubC.sub, ?_⟩
            refine r_q0 7 (by kernel_rfl) rfl (Le.refl _) rfl rfl rfl (fun _ hI => q_assign rfl rfl) ?_
            refine r_end (by kernel_rfl) ?_
            refine n_cut (v28) ?_ (sub_cons rfl sub_nil) (sub_cons rfl (sub_cons rfl (sub_cons rfl (sub_cons rfl (sub_cons rfl sub_nil))))) (fun _ h => by try dsimp only; exact subC_st h)
            · trivial
          · skip
            refine x_e 5 rfl rfl (Le.refl _) rfl rfl rfl (e_buildSlice1 rfl Try.underlying22 ti29 rfl rfl rfl (by first | exact One.cells (by assumption) | rfl) rfl) ?_
            rintro _ _ _ ⟨b27, rfl, rfl, rfl⟩
            refine ⟨Le.refl _, .inr SubC.sub, ?_⟩
            refine r_e 3 (by kernel_rfl) (by kernel_rfl) rfl (Le.refl _) rfl rfl rfl (e_appendSl (f := chC) (l := [uq 42]) rfl Try.underlying22 ti29 rfl rfl rfl rfl (hv) rfl (fun _ => rfl) chC_ones (by simp only [maxLen, List.length_append, List.length_cons, List.length_nil]; omega) (by simp only [List.length_append, List.length_cons, List.length_nil]; omega)) ?_
            rintro v25 _ _ ⟨rfl, rfl⟩
            refine ⟨Le.refl _, .inr SubC.sub, ?_⟩
            refine r_e 6 (by kernel_rfl) (by kernel_rfl) rfl (Le.refl _) rfl rfl rfl (e_appendT (f := chC) (l := [uq 42] ++ p) (c := uq 42) rfl Try.underlying22 ti29 rfl rfl rfl rfl rfl rfl rfl (by first | exact byC_ones _ | exact chC_ones _ | exact pcC_ones _ | simp [Value.oneCell', str, u8] | exact ones1 (by assumption)) (by simp only [maxLen, List.length_append, List.length_cons, List.length_nil]; omega) (by simp only [List.length_append, List.length_cons, List.length_nil]; omega)) ?_
            rintro v28 _ _ ⟨rfl, rfl⟩
            refine ⟨Le.refl _, .inr SubC.sub, ?_⟩
            refine r_q0 7 (by kernel_rfl) rfl (Le.refl _) rfl rfl rfl (fun _ hI => q_assign rfl rfl) ?_
            refine r_end (by kernel_rfl) ?_
            refine n_cut (v28) ?_ (sub_cons rfl sub_nil) (sub_cons rfl (sub_cons rfl (sub_cons rfl (sub_cons rfl (sub_cons rfl sub_nil))))) (fun _ h => by try dsimp only; exact subC_st h)
            · trivial
        · skip
          refine x_e 5 rfl rfl (Le.refl _) rfl rfl rfl (e_buildSlice1 rfl Try.underlying22 ti29 rfl rfl rfl (by first | exact One.cells (by assumption) | rfl) rfl) ?_
          rintro _ _ _ ⟨b27, rfl, rfl, rfl⟩
          refine ⟨Le.refl _, .inr SubC.sub, ?_⟩
          refine r_e 1 (by kernel_rfl) (by kernel_rfl) rfl (Le.refl _) rfl rfl rfl (e_buildSlice1 rfl Try.underlying22 ti29 rfl rfl rfl (by first | exact One.cells (by assumption) | rfl) rfl) ?_
          rintro _ _ _ ⟨b23, rfl, rfl, rfl⟩
          refine ⟨Le.refl _, .inr SubC.sub, ?_⟩
          refine r_heap (H' := tvec 29 2 chC (.slice (some ⟨b23, 0, none⟩) 1 1) [uq 42] :: _) ?_ (fun _ h => st_rowVec h rfl (by decide))
          refine r_e 3 (by kernel_rfl) (by kernel_rfl) rfl (Le.refl _) rfl rfl rfl (e_appendSl (f := chC) (l := [uq 42]) rfl Try.underlying22 ti29 rfl rfl rfl rfl (hv) rfl (fun _ => rfl) chC_ones (by simp only [maxLen, List.length_append, List.length_cons, List.length_nil]; omega) (by simp only [List.length_append, List.length_cons, List.length_nil]; omega)) ?_
          rintro v25 _ _ ⟨rfl, rfl⟩
          refine ⟨Le.refl _, .inr SubC.sub, ?_⟩
          refine r_e 6 (by kernel_rfl) (by kernel_rfl) rfl (Le.refl _) rfl rfl rfl (e_appendT (f := chC) (l := [uq 42] ++ p) (c := uq 42) rfl Try.underlying22 ti29 rfl rfl rfl rfl rfl rfl rfl (by first | exact byC_ones _ | exact chC_ones _ | exact pcC_ones _ | simp [Value.oneCell', str, u8] | exact ones1 (by assumption)) (by simp only [maxLen, List.length_append, List.length_cons, List.length_nil]; omega) (by simp only [List.length_append, List.length_cons, List.length_nil]; omega)) ?_
          rintro v28 _ _ ⟨rfl, rfl⟩
          refine ⟨Le.refl _, .inr SubC.sub, ?_⟩
          refine r_q0 7 (by kernel_rfl) rfl (Le.refl _) rfl rfl rfl (fun _ hI => q_assign rfl rfl) ?_
          refine r_end (by kernel_rfl) ?_
          refine n_cut (v28) ?_ (sub_cons rfl sub_nil) (sub_cons rfl (sub_cons rfl (sub_cons rfl (sub_cons rfl (sub_cons rfl sub_nil))))) (fun _ h => by try dsimp only; exact subC_st h)
          · trivial
      rintro va _
      try dsimp only at *
      refine t_seq ?_
      refine t_region ?_
      refine l_q rfl rfl rfl (q_assign rfl rfl) ?_
      refine l_nil ?_
      refine n_then ?_
      refine t_seq ?_
      refine t_seq ?_
      refine t_region ?_
      refine l_q rfl rfl rfl (q_assign rfl rfl) ?_
      refine l_nil ?_
      refine n_then ?_
      refine t_block ?_
      refine t_loopE (ι := Nat) (fun zz => zz ≤ s.length + 1) (fun zz => s.length + 1 - zz) (fun zz => [(8, .int .i64 (zz : Int)), (7, .bool (starAny p s zz))]) [(6, _), (0, _), (1, _), (4, _), (12, _), (20, _)] (fun zz => look w) (fun zz => [tvec 29 2 chC va ([uq 42] ++ p ++ [uq 42])]) 0 ?_ (sub_cons rfl (sub_cons rfl sub_nil)) (sub_cons rfl (sub_cons rfl (sub_cons rfl (sub_cons rfl (sub_cons rfl (sub_cons rfl sub_nil)))))) (fun _ h => subC_st h) ?_
      · try dsimp only
        omega
      rintro i hi
      try dsimp only at *
      refine t_seq ?_
      refine t_seq ?_
      refine t_region ?_
      refine l_q rfl rfl rfl (q_move rfl rfl) ?_
      refine l_q rfl rfl rfl (q_move rfl rfl) ?_
      refine l_q rfl rfl rfl (q_len_str rfl Try.underlying9 rfl) ?_
      refine l_q rfl rfl rfl (q_leq rfl rfl rfl) ?_
      refine l_nil ?_
      refine n_then ?_
      refine t_cond rfl (fun hc2 => ?_) (fun hc2 => ?_)
      · skip
        try simp at hc2
        refine t_skip ?_
        refine n_then ?_
        refine t_seq ?_
        refine t_block ?_
        refine t_seq ?_
        refine t_region ?_
        refine l_q rfl rfl rfl (q_move rfl rfl) ?_
        refine l_q rfl rfl rfl (q_assign rfl rfl) ?_
        refine l_nil ?_
        refine n_then ?_
        refine t_block ?_
        refine t_loopE (ι := Nat) (fun zz => i ≤ zz ∧ zz ≤ s.length + 1) (fun zz => s.length + 1 - zz) (fun zz => [(9, .int .i64 (zz : Int)), (7, .bool (starAny p s i || starIn p s i zz))]) [(8, _), (6, _), (0, _), (1, _), (4, _), (12, _), (20, _), (32, _)] (fun zz => look w) (fun zz => [tvec 29 2 chC va ([uq 42] ++ p ++ [uq 42])]) i ?_ (sub_cons rfl (sub_cons' rfl (by rw [starIn_zero, Bool.or_false]) (sub_nil))) (sub_cons rfl (sub_cons rfl (sub_cons rfl (sub_cons rfl (sub_cons rfl (sub_cons rfl (sub_cons rfl (sub_cons rfl sub_nil)))))))) (fun _ h => subC_st h) ?_
        · try dsimp only
          exact ⟨Nat.le_refl _, by omega⟩
        rintro j ⟨hij, hj⟩
        try dsimp only at *
        refine t_seq ?_
        refine t_seq ?_
        refine t_region ?_
        refine l_q rfl rfl rfl (q_move rfl rfl) ?_
        refine l_q rfl rfl rfl (q_move rfl rfl) ?_
        refine l_q rfl rfl rfl (q_len_str rfl Try.underlying9 rfl) ?_
        refine l_q rfl rfl rfl (q_leq rfl rfl rfl) ?_
        refine l_nil ?_
        refine n_then ?_
        refine t_cond rfl (fun hc3 => ?_) (fun hc3 => ?_)
        · skip
          try simp at hc3
          refine t_skip ?_
          refine n_then ?_
          refine t_seq ?_
          refine t_block ?_
          refine t_qreg ?_
          refine s_q rfl rfl rfl (q_move rfl rfl) ?_
          refine s_q rfl rfl rfl (q_move rfl rfl) ?_
          refine s_or2 6 1 43 50 49 _ _ rfl rfl rfl rfl rfl rfl (fun h50 => by
              try simp at h50
              refine s_g rfl rfl rfl rfl rfl rfl (q_move rfl rfl) ?_
              refine s_g rfl rfl rfl rfl rfl rfl (q_move rfl rfl) ?_
              refine s_g rfl rfl rfl rfl rfl rfl (q_move rfl rfl) ?_
              refine s_g rfl rfl rfl rfl rfl rfl (q_move rfl rfl) ?_
              refine s_g rfl rfl rfl rfl rfl rfl (q_slice_str rfl Try.underlying9 rfl rfl rfl (by omega)) ?_
              refine s_g rfl rfl rfl rfl rfl rfl (quiet_call rfl rfl rfl Try.func12 (by kernel_rfl) rfl ((fun w hw => match_pure v p ((s.drop (i : Int).toNat).take ((j : Int).toNat - (i : Int).toNat)) w (by omega) (by simp; omega) (hv.mono (Le.of_st hw))))) ?_
              exact s_val rfl
            ) (wanted_n rfl) rfl rfl rfl ?_
          refine s_q rfl rfl rfl (q_assign rfl rfl) ?_
          refine s_done ?_
          refine n_block ?_
          refine n_then ?_
          refine t_region ?_
          refine l_q rfl rfl rfl (q_move rfl rfl) ?_
          refine l_q rfl rfl rfl (q_add64 rfl rfl rfl (by omega)) ?_
          refine l_q rfl rfl rfl (q_assign rfl rfl) ?_
          refine l_nil ?_
          refine n_roundE (j + 1) ?_ ?_ (sub_cons rfl (sub_cons' rfl (by rw [starIn_snoc hij, ← Bool.or_assoc]; rfl) (sub_nil))) (sub_cons rfl (sub_cons rfl (sub_cons rfl (sub_cons rfl (sub_cons rfl (sub_cons rfl (sub_cons rfl (sub_cons rfl sub_nil)))))))) (fun _ h => by try dsimp only; exact subC_st h)
          · try dsimp only
            exact ⟨by omega, by omega⟩
          · try dsimp only
            omega
        · skip
          try simp at hc3
          refine t_exit ?_
          refine n_exit_then ?_
          refine n_exit_then ?_
          refine n_exit_block ?_
          refine n_block ?_
          refine n_then ?_
          refine t_region ?_
          refine l_q rfl rfl rfl (q_move rfl rfl) ?_
          refine l_q rfl rfl rfl (q_add64 rfl rfl rfl (by omega)) ?_
          refine l_q rfl rfl rfl (q_assign rfl rfl) ?_
          refine l_nil ?_
          refine n_roundE (i + 1) ?_ ?_ (sub_cons rfl (sub_cons' rfl (by rw [starAny_snoc, show s.length + 1 = j by omega]) (sub_nil))) (sub_cons rfl (sub_cons rfl (sub_cons rfl (sub_cons rfl (sub_cons rfl (sub_cons rfl sub_nil)))))) (fun _ h => by try dsimp only; exact subC_st h)
          · try dsimp only
            omega
          · try dsimp only
            omega
      · skip
        try simp at hc2
        refine t_exit ?_
        refine n_exit_then ?_
        refine n_exit_then ?_
        refine n_exit_block ?_
        refine n_then ?_
        refine t_seq ?_
        refine t_seq ?_
        refine t_region ?_
        refine l_q rfl rfl rfl (q_move rfl rfl) ?_
        refine l_q rfl rfl rfl ((by first | exact q_lenV rfl Try.underlying22 rfl | exact q_len rfl Try.underlying22 rfl (Sl.lenOf hv (List.length_map _)))) ?_
        refine l_q rfl rfl rfl (q_move rfl rfl) ?_
        refine l_nil ?_
        refine n_then ?_
        refine t_block ?_
        refine t_loopE (ι := Nat) (fun zz => zz ≤ p.length ∧ ∀ j, j < zz → nth p j ch0 ≠ uq 91) (fun zz => p.length - zz) (fun zz => [(53, .int .i64 (zz : Int))]) [(8, _), (7, _), (6, _), (0, _), (1, _), (12, _), (20, _), (32, _), (52, _)] (fun zz => look w) (fun zz => [tvec 29 2 chC va ([uq 42] ++ p ++ [uq 42])]) 0 ?_ (sub_cons rfl sub_nil) (sub_cons rfl (sub_cons rfl (sub_cons rfl (sub_cons rfl (sub_cons rfl (sub_cons rfl (sub_cons rfl (sub_cons rfl (sub_cons rfl sub_nil))))))))) (fun _ h => subC_st h) ?_
        · try dsimp only
          exact ⟨Nat.zero_le _, fun j hj => absurd hj (Nat.not_lt_zero j)⟩
        rintro k ⟨hk, hno⟩
        try dsimp only at *
        refine t_seq ?_
        refine t_region ?_
        refine l_q rfl rfl rfl (q_lss rfl rfl rfl) ?_
        refine l_nil ?_
        refine n_then ?_
        refine t_seq ?_
        refine t_cond rfl (fun hc4 => ?_) (fun hc4 => ?_)
        · skip
          try simp at hc4
          refine t_skip ?_
          refine n_then ?_
          refine t_seq ?_
          refine t_block ?_
          refine t_seq ?_
          refine t_region ?_
          refine l_q rfl rfl rfl (q_move rfl rfl) ?_
          refine l_q rfl rfl rfl (q_assign rfl rfl) ?_
          refine l_nil ?_
          refine n_then ?_
          refine t_seq ?_
          refine t_region ?_
          refine l_q rfl rfl rfl (q_move rfl rfl) ?_
          refine l_q rfl rfl rfl (q_move rfl rfl) ?_
          refine l_q rfl rfl rfl ((by first | exact q_indexAddrVN rfl Try.underlying22 ti29 rfl rfl (by omega) | exact q_indexAddrN rfl Try.underlying22 ti29 rfl rfl (Sl.shape hv (List.length_map _)) (by omega) | exact q_indexAddrV rfl Try.underlying22 ti29 rfl rfl (by omega) | exact q_indexAddr rfl Try.underlying22 ti29 rfl rfl (Sl.shape hv (List.length_map _)) (by omega))) ?_
          refine l_q rfl rfl rfl ((by first | exact q_load_rowA rfl Try.underlying29 ti29 rfl rfl rfl | exact q_load_agg rfl Try.underlying29 ti29 rfl rfl (rds_ch0 (i := k) hv (by omega)))) ?_
          refine l_q rfl rfl rfl (q_build (pl := [(_, _), (_, _)]) (cs := (chC (uq 91)).toArray) rfl Try.underlying29 ti29 ⟨rfl, ⟨_, _, ti5⟩, rfl, ⟨_, _, ti4⟩, trivial⟩ rfl rfl) ?_
          refine l_q rfl rfl rfl (q_eql_st rfl (by kernel_rfl) rfl rfl (eqCh _ _)) ?_
          refine l_nil ?_
          refine n_then ?_
          refine t_cond rfl (fun hc5 => ?_) (fun hc5 => ?_)
          · skip
            simp only [decide_eq_true_eq, decide_eq_false_iff_not] at hc5
            refine t_seq ?_
            refine t_region ?_
            refine l_q rfl rfl rfl (q_assign rfl rfl) ?_
            refine l_nil ?_
            refine n_then ?_
            refine t_ret ?_
            refine n_ret_block ?_
            refine n_ret_then ?_
            refine n_ret_then ?_
            refine n_ret_block ?_
            refine n_ret_then ?_
            refine n_ret1 rfl rfl (fun w' hw => ?_)
            -- leaf 1
            exact ⟨rfl, hw.below⟩
          · skip
            simp only [decide_eq_true_eq, decide_eq_false_iff_not] at hc5
            refine t_skip ?_
            refine n_block ?_
            refine n_then ?_
            refine t_region ?_
            refine l_q rfl rfl rfl (q_add64 rfl rfl rfl (by omega)) ?_
            refine l_q rfl rfl rfl (q_move rfl rfl) ?_
            refine l_nil ?_
            refine n_roundE (k + 1) ?_ ?_ (sub_cons rfl sub_nil) (sub_cons rfl (sub_cons rfl (sub_cons rfl (sub_cons rfl (sub_cons rfl (sub_cons rfl (sub_cons rfl (sub_cons rfl (sub_cons rfl sub_nil))))))))) (fun _ h => by try dsimp only; exact subC_st h)
            · try dsimp only
              refine ⟨by omega, fun j hj => ?_⟩
              rcases Nat.lt_succ_iff_lt_or_eq.1 hj with h | rfl
              · exact hno j h
              · exact hc5
            · try dsimp only
              omega
        · skip
          try simp at hc4
          refine t_exit ?_
          refine n_exit_then ?_
          refine n_exit_then ?_
          refine n_exit_block ?_
          refine n_then ?_
          refine t_seq ?_
          refine t_freezeT (f := chC) (l := ([uq 42] ++ p ++ [uq 42])) va (fun _ => rfl) (fun J hJ hva => ?_)
          refine t_region ?_
          refine l_q rfl rfl rfl (q_move rfl rfl) ?_
          refine l_q rfl rfl rfl (q_move rfl rfl) ?_
          refine l_q rfl rfl rfl (quiet_call rfl rfl rfl Try.func12 (by kernel_rfl) rfl ((fun w hw => match_pure va ([uq 42] ++ p ++ [uq 42]) s w (by simp; omega) (by omega) (hva.mono (Le.of_st hw))))) ?_
          refine l_q rfl rfl rfl (q_move rfl rfl) ?_
          refine l_q rfl rfl rfl (q_eql_bool rfl Try.underlying4 rfl rfl) ?_
          refine l_q rfl rfl rfl (q_assign rfl rfl) ?_
          refine l_nil ?_
          refine n_then ?_
          refine t_ret ?_
          refine n_ret1 rfl rfl (fun w' hw => ?_)
          -- leaf 2
          refine ⟨?_, (hw.less hJ).below⟩
          have h := star_law (noBr_of fun j hj => hno j (by omega)) s
          rw [show uq 42 :: (p ++ [uq 42]) = ([uq 42] ++ p ++ [uq 42]) by simp, ← show i = s.length + 1 by omega] at h
          rw [h]; simp
set_option maxRecDepth 10000 in
theorem patternSplits_pure (v u : Value) (p q : List Ch) (s : List UInt8) (w : World) (hp : p.length ≤ 4000000000000000000) (hq : q.length ≤ 4000000000000000000) (hs : s.length ≤ 4611686018427387904) (hv : Sl (look w) 2 v (p.map chC)) (hu : Sl (look w) 2 u (q.map chC)) : Pure Try.prog 5 [v, u, str s] w (.bool true) := by
  refine enter Try.func5 rfl Try.ntmps5 rfl (St.start w (look w) (Le.refl _)) ?_
  refine t_seq ?_
  refine t_region ?_
  refine l_q rfl rfl rfl (q_assign rfl rfl) ?_
  refine l_nil ?_
  refine n_then ?_
  refine t_seq ?_
  refine t_seq ?_
  refine t_region ?_
  refine l_q rfl rfl rfl (quiet_call rfl rfl rfl Try.func9 (by kernel_rfl) rfl ((fun w _ => awake_pure w))) ?_
  refine l_q rfl rfl rfl (q_not rfl rfl) ?_
  refine l_nil ?_
  refine n_then ?_
  refine t_cond rfl (fun hc0 => ?_) (fun hc0 => ?_)
  · skip
    try simp at hc0
  · skip
    try simp at hc0
    refine t_skip ?_
    refine n_then ?_
    refine t_seq ?_
    refine t_seq ?_
    refine t_qreg ?_
    refine s_q rfl rfl rfl (q_move rfl rfl) ?_
    refine s_q rfl rfl rfl ((by first | exact q_lenV rfl Try.underlying22 rfl | exact q_len rfl Try.underlying22 rfl (Sl.lenOf hv (List.length_map _)) | exact q_len rfl Try.underlying22 rfl (Sl.lenOf hu (List.length_map _)) | exact q_len rfl Try.underlying22 rfl (Sl.lenOf (n := p.length + q.length) hb (by simp)))) ?_
    refine s_q rfl rfl rfl (q_move rfl rfl) ?_
    refine s_q rfl rfl rfl ((by first | exact q_lenV rfl Try.underlying22 rfl | exact q_len rfl Try.underlying22 rfl (Sl.lenOf hv (List.length_map _)) | exact q_len rfl Try.underlying22 rfl (Sl.lenOf hu (List.length_map _)) | exact q_len rfl Try.underlying22 rfl (Sl.lenOf (n := p.length + q.length) hb (by simp)))) ?_
    refine s_q rfl rfl rfl (q_add64 rfl rfl rfl (by omega)) ?_
    refine s_q rfl rfl rfl (q_gtr rfl rfl rfl) ?_
    refine s_q rfl rfl rfl (q_move rfl rfl) ?_
    refine s_or2 3 6 20 24 23 _ _ rfl rfl rfl rfl rfl rfl (fun h24 => by
        try simp at h24
        refine s_g rfl rfl rfl rfl rfl rfl (q_move rfl rfl) ?_
        refine s_g rfl rfl rfl rfl rfl rfl (q_len_str rfl Try.underlying9 rfl) ?_
        refine s_g rfl rfl rfl rfl rfl rfl (q_gtr rfl rfl rfl) ?_
        exact s_val rfl
      ) (wanted_n rfl) rfl rfl rfl ?_
    refine s_done ?_
    refine n_then ?_
    refine t_cond rfl (fun hc1 => ?_) (fun hc1 => ?_)
    · skip
      refine t_seq ?_
      refine t_region ?_
      refine l_q rfl rfl rfl (q_assign rfl rfl) ?_
      refine l_nil ?_
      refine n_then ?_
      refine t_ret ?_
      refine n_ret_then ?_
      refine n_ret1 rfl rfl (fun w' hw => ?_)
      -- leaf 0
      exact ⟨rfl, hw.below⟩
    · skip
      have h1 : (decide ((20 : Int) < (p.length : Int) + (q.length : Int)) || decide ((20 : Int) < (s.length : Int))) = false := hc1
      rw [Bool.or_eq_false_iff, decide_eq_false_iff_not, decide_eq_false_iff_not] at h1
      have h11 := h1.1
      have h12 := h1.2
      refine t_skip ?_
      refine n_then ?_
      refine t_seq ?_
      refine t_region ?_
      refine l_e rfl rfl rfl (e_buildSlice0 rfl Try.underlying22 ti29) ?_
      rintro v25 _ _ ⟨⟨b25, hb25⟩, rfl, rfl⟩
      refine l_q rfl rfl rfl (q_move rfl rfl) ?_
      refine l_e rfl rfl rfl (e_appendSl (f := chC) (l := []) rfl Try.underlying22 ti29 rfl rfl rfl rfl (hv) rfl (fun _ => rfl) chC_ones (by simp only [maxLen, List.length_append, List.length_nil]; omega) (by simp only [List.length_append, List.length_nil]; omega)) ?_
      rintro v27 _ _ ⟨rfl, rfl⟩
      refine l_q rfl rfl rfl (q_move rfl rfl) ?_
      refine l_e rfl rfl rfl (e_appendSl (f := chC) (l := [] ++ p) rfl Try.underlying22 ti29 rfl rfl rfl rfl (hu) rfl (fun _ => rfl) chC_ones (by simp only [maxLen, List.length_append, List.length_nil]; omega) (by simp only [List.length_append, List.length_nil]; omega)) ?_
      rintro v29 _ _ ⟨rfl, rfl⟩
      refine l_q rfl rfl rfl (q_assign rfl rfl) ?_
      refine l_nil ?_
      refine n_then ?_
      refine t_seq ?_
      refine t_seq ?_
      refine t_freezeT (f := chC) (l := [] ++ p ++ q) v29 (fun _ => rfl) (fun J hJ hb => ?_)
      rw [List.nil_append] at hb
      refine t_region ?_
      refine l_q rfl rfl rfl (q_move rfl rfl) ?_
      refine l_q rfl rfl rfl ((by first | exact q_lenV rfl Try.underlying22 rfl | exact q_len rfl Try.underlying22 rfl (Sl.lenOf hv (List.length_map _)) | exact q_len rfl Try.underlying22 rfl (Sl.lenOf hu (List.length_map _)) | exact q_len rfl Try.underlying22 rfl (Sl.lenOf (n := p.length + q.length) hb (by simp)))) ?_
      refine l_q rfl rfl rfl (q_move rfl rfl) ?_
      refine l_nil ?_
      refine n_then ?_
      refine t_block ?_
      refine t_loopE (ι := Nat) (fun zz => zz ≤ p.length + q.length ∧ ∀ j, j < zz → nth (p ++ q) j ch0 ≠ uq 91) (fun zz => p.length + q.length - zz) (fun zz => [(32, .int .i64 (zz : Int))]) [(0, _), (1, _), (2, _), (13, _), (24, _), (7, _), (30, _), (31, _)] (fun zz => J) (fun zz => []) 0 ?_ (sub_cons rfl sub_nil) (sub_cons rfl (sub_cons rfl (sub_cons rfl (sub_cons rfl (sub_cons rfl (sub_cons rfl (sub_cons rfl (sub_cons rfl sub_nil)))))))) (fun _ h => subC_st h) ?_
      · try dsimp only
        exact ⟨Nat.zero_le _, fun j hj => absurd hj (Nat.not_lt_zero j)⟩
      rintro k ⟨hk, hno⟩
      try dsimp only at *
      refine t_seq ?_
      refine t_region ?_
      refine l_q rfl rfl rfl (q_lss rfl rfl rfl) ?_
      refine l_nil ?_
      refine n_then ?_
      refine t_seq ?_
      refine t_cond rfl (fun hc2 => ?_) (fun hc2 => ?_)
      · skip
        try simp at hc2
        refine t_skip ?_
        refine n_then ?_
        refine t_seq ?_
        refine t_block ?_
        refine t_seq ?_
        refine t_region ?_
        refine l_q rfl rfl rfl ((by first | exact q_indexAddrVN rfl Try.underlying22 ti29 rfl rfl (by omega) | exact q_indexAddrN rfl Try.underlying22 ti29 rfl rfl (Sl.shape (n := p.length + q.length) hb (by simp)) (by omega) | exact q_indexAddrV rfl Try.underlying22 ti29 rfl rfl (by omega) | exact q_indexAddr rfl Try.underlying22 ti29 rfl rfl (Sl.shape (n := p.length + q.length) hb (by simp)) (by omega))) ?_
        refine l_q rfl rfl rfl ((by first | exact q_load_rowA rfl Try.underlying29 ti29 rfl rfl rfl | exact q_load_agg rfl Try.underlying29 ti29 rfl rfl (rds_ch0 (i := k) hb (by simp; omega)))) ?_
        refine l_e rfl rfl rfl (e_alloc rfl ti29 rfl) ?_
        rintro _ _ _ ⟨b9, rfl, rfl, rfl⟩
        refine l_e0 rfl rfl ((by first | exact e_store_all rfl ti29 rfl rfl rfl (by first | exact chC_ones _ | exact pcC_ones _ | exact memC_ones _ | simp [Value.oneCell', str, u8]) rfl | exact e_store_agg rfl ti29 rfl rfl rfl (by first | exact chC_ones _ | exact pcC_ones _ | exact memC_ones _ | simp [Value.oneCell', str, u8]) rfl)) ?_
        rintro _ _ _ ⟨rfl, rfl⟩
        refine l_heap (H' := row b9 29 (chC (nth (p ++ q) k ch0)) :: _) ?_ (fun _ h => h)
        refine l_nil ?_
        refine n_then ?_
        refine t_seq ?_
        refine t_region ?_
        refine l_q rfl rfl rfl ((by first | exact q_load_rowA rfl Try.underlying29 ti29 rfl rfl rfl | exact q_load_agg rfl Try.underlying29 ti29 rfl rfl (rds_ch0 (i := k) hb (by simp; omega)))) ?_
        refine l_q rfl rfl rfl (q_build (pl := [(_, _), (_, _)]) (cs := (chC (uq 91)).toArray) rfl Try.underlying29 ti29 ⟨rfl, ⟨_, _, ti5⟩, rfl, ⟨_, _, ti4⟩, trivial⟩ rfl rfl) ?_
        refine l_q rfl rfl rfl (q_eql_st rfl (by kernel_rfl) rfl rfl (eqCh _ _)) ?_
        refine l_nil ?_
        refine n_then ?_
        refine t_cond rfl (fun hc3 => ?_) (fun hc3 => ?_)
        · skip
          simp only [decide_eq_true_eq, decide_eq_false_iff_not] at hc3
          refine t_seq ?_
          refine t_region ?_
          refine l_q rfl rfl rfl (q_assign rfl rfl) ?_
          refine l_nil ?_
          refine n_then ?_
          refine t_ret ?_
          refine n_ret_block ?_
          refine n_ret_then ?_
          refine n_ret_then ?_
          refine n_ret_block ?_
          refine n_ret_then ?_
          refine n_ret1 rfl rfl (fun w' hw => ?_)
          -- leaf 1
          exact ⟨rfl, (hw.less hJ).below⟩
        · skip
          simp only [decide_eq_true_eq, decide_eq_false_iff_not] at hc3
          refine t_skip ?_
          refine n_block ?_
          refine n_then ?_
          refine t_region ?_
          refine l_q rfl rfl rfl (q_add64 rfl rfl rfl (by omega)) ?_
          refine l_q rfl rfl rfl (q_move rfl rfl) ?_
          refine l_nil ?_
          refine n_roundE (k + 1) ?_ ?_ (sub_cons rfl sub_nil) (sub_cons rfl (sub_cons rfl (sub_cons rfl (sub_cons rfl (sub_cons rfl (sub_cons rfl (sub_cons rfl (sub_cons rfl sub_nil)))))))) (fun _ h => by try dsimp only; exact subC_st h)
          · try dsimp only
            refine ⟨by omega, fun j hj => ?_⟩
            rcases Nat.lt_succ_iff_lt_or_eq.1 hj with h | rfl
            · exact hno j h
            · exact hc3
          · try dsimp only
            omega
      · skip
        try simp at hc2
        refine t_exit ?_
        refine n_exit_then ?_
        refine n_exit_then ?_
        refine n_exit_block ?_
        refine n_then ?_
        refine t_seq ?_
        refine t_region ?_
        refine l_q rfl rfl rfl (q_assign rfl rfl) ?_
        refine l_nil ?_
        refine n_then ?_
        refine t_seq ?_
        refine t_seq ?_
        refine t_region ?_
        refine l_q rfl rfl rfl (q_assign rfl rfl) ?_
        refine l_nil ?_
        refine n_then ?_
        refine t_block ?_
        refine t_loopE (ι := Nat) (fun zz => zz ≤ s.length + 1) (fun zz => s.length + 1 - zz) (fun zz => [(11, .int .i64 (zz : Int)), (10, .bool (splitAny p q s zz))]) [(32, _), (0, _), (1, _), (2, _), (13, _), (24, _), (7, _), (30, _), (31, _), (33, _)] (fun zz => J) (fun zz => []) 0 ?_ (sub_cons rfl (sub_cons rfl sub_nil)) (sub_cons rfl (sub_cons rfl (sub_cons rfl (sub_cons rfl (sub_cons rfl (sub_cons rfl (sub_cons rfl (sub_cons rfl (sub_cons rfl (sub_cons rfl sub_nil)))))))))) (fun _ h => subC_st h) ?_
        · try dsimp only
          omega
        rintro i hi
        try dsimp only at *
        refine t_seq ?_
        refine t_seq ?_
        refine t_region ?_
        refine l_q rfl rfl rfl (q_move rfl rfl) ?_
        refine l_q rfl rfl rfl (q_move rfl rfl) ?_
        refine l_q rfl rfl rfl (q_len_str rfl Try.underlying9 rfl) ?_
        refine l_q rfl rfl rfl (q_leq rfl rfl rfl) ?_
        refine l_nil ?_
        refine n_then ?_
        refine t_cond rfl (fun hc4 => ?_) (fun hc4 => ?_)
        · skip
          try simp at hc4
          refine t_skip ?_
          refine n_then ?_
          refine t_seq ?_
          refine t_block ?_
          refine t_qreg ?_
          refine s_q rfl rfl rfl (q_move rfl rfl) ?_
          refine s_q rfl rfl rfl (q_move rfl rfl) ?_
          refine s_or2 12 1 47 60 59 _ _ rfl rfl rfl rfl rfl rfl (fun h60 => by
              try simp at h60
              refine s_g rfl rfl rfl rfl rfl rfl (q_move rfl rfl) ?_
              refine s_g rfl rfl rfl rfl rfl rfl (q_move rfl rfl) ?_
              refine s_g rfl rfl rfl rfl rfl rfl (q_move rfl rfl) ?_
              refine s_g rfl rfl rfl rfl rfl rfl (q_slice_str_to rfl Try.underlying9 rfl rfl (by omega)) ?_
              refine s_g rfl rfl rfl rfl rfl rfl (quiet_call rfl rfl rfl Try.func12 (by kernel_rfl) rfl ((fun w hw => match_pure v p (s.take (i : Int).toNat) w (by omega) (by simp; omega) ((hv.mono hJ).mono (Le.of_st hw))))) ?_
              refine s_g rfl rfl rfl rfl rfl rfl (q_move rfl rfl) ?_
              refine s_and2 5 7 53 59 58 _ _ rfl rfl rfl rfl rfl rfl (fun h59 => by
                  try simp at h59
                  refine s_g rfl rfl rfl rfl rfl rfl (q_move rfl rfl) ?_
                  refine s_g rfl rfl rfl rfl rfl rfl (q_move rfl rfl) ?_
                  refine s_g rfl rfl rfl rfl rfl rfl (q_move rfl rfl) ?_
                  refine s_g rfl rfl rfl rfl rfl rfl (q_slice_str_from rfl Try.underlying9 rfl rfl (by omega)) ?_
                  refine s_g rfl rfl rfl rfl rfl rfl (quiet_call rfl rfl rfl Try.func12 (by kernel_rfl) rfl ((fun w hw => match_pure u q (s.drop (i : Int).toNat) w (by omega) (by simp; omega) ((hu.mono hJ).mono (Le.of_st hw))))) ?_
                  exact s_val rfl
                ) (wanted_g rfl rfl rfl rfl) rfl rfl rfl ?_
              exact s_val rfl
            ) (wanted_n rfl) rfl rfl rfl ?_
          refine s_q rfl rfl rfl (q_assign rfl rfl) ?_
          refine s_done ?_
          refine n_block ?_
          refine n_then ?_
          refine t_region ?_
          refine l_q rfl rfl rfl (q_move rfl rfl) ?_
          refine l_q rfl rfl rfl (q_add64 rfl rfl rfl (by omega)) ?_
          refine l_q rfl rfl rfl (q_assign rfl rfl) ?_
          refine l_nil ?_
          refine n_roundE (i + 1) ?_ ?_ (sub_cons rfl (sub_cons' rfl (by rw [splitAny_snoc]; rfl) (sub_nil))) (sub_cons rfl (sub_cons rfl (sub_cons rfl (sub_cons rfl (sub_cons rfl (sub_cons rfl (sub_cons rfl (sub_cons rfl (sub_cons rfl (sub_cons rfl sub_nil)))))))))) (fun _ h => by try dsimp only; exact subC_st h)
          · try dsimp only
            omega
          · try dsimp only
            omega
        · skip
          try simp at hc4
          refine t_exit ?_
          refine n_exit_then ?_
          refine n_exit_then ?_
          refine n_exit_block ?_
          refine n_then ?_
          refine t_seq ?_
          refine t_region ?_
          refine l_q rfl rfl rfl (q_move rfl rfl) ?_
          refine l_q rfl rfl rfl (q_move rfl rfl) ?_
          refine l_q rfl rfl rfl (quiet_call rfl rfl rfl Try.func12 (by kernel_rfl) rfl ((fun w hw => match_pure v29 (p ++ q) s w (by simp; omega) (by omega) (hb.mono (Le.of_st hw))))) ?_
          refine l_q rfl rfl rfl (q_move rfl rfl) ?_
          refine l_q rfl rfl rfl (q_eql_bool rfl Try.underlying4 rfl rfl) ?_
          refine l_q rfl rfl rfl (q_assign rfl rfl) ?_
          refine l_nil ?_
          refine n_then ?_
          refine t_ret ?_
          refine n_ret1 rfl rfl (fun w' hw => ?_)
          -- leaf 2
          refine ⟨?_, (hw.less hJ).below⟩
          have hn : noBr (p ++ q) := noBr_of fun j hj => hno j (by simp at hj; omega)
          have h := split_law (p := p) (q := q) (fun c hc => hn c (List.mem_append_left _ hc)) (fun c hc => hn c (List.mem_append_right _ hc)) s
          rw [← show i = s.length + 1 by omega] at h
          rw [h]; simp
set_option maxRecDepth 10000 in
theorem patternTurned_pure (m : List UInt8) (c : UInt8) (w : World) (hm : m.length ≤ 4611686018427387904) : Pure Try.prog 6 [str m, u8 c] w (.bool true) := by
  refine enter Try.func6 rfl Try.ntmps6 rfl (St.start w (look w) (Le.refl _)) ?_
  refine t_seq ?_
  refine t_region ?_
  refine l_q rfl rfl rfl (q_assign rfl rfl) ?_
  refine l_nil ?_
  refine n_then ?_
  refine t_seq ?_
  refine t_seq ?_
  refine t_region ?_
  refine l_q rfl rfl rfl (quiet_call rfl rfl rfl Try.func9 (by kernel_rfl) rfl ((fun w _ => awake_pure w))) ?_
  refine l_q rfl rfl rfl (q_not rfl rfl) ?_
  refine l_nil ?_
  refine n_then ?_
  refine t_cond rfl (fun hc0 => ?_) (fun hc0 => ?_)
  · skip
    try simp at hc0
  · skip
    try simp at hc0
    refine t_skip ?_
    refine n_then ?_
    refine t_seq ?_
    refine t_seq ?_
    refine t_qreg ?_
    refine s_q rfl rfl rfl (q_move rfl rfl) ?_
    refine s_q rfl rfl rfl (q_eql_str rfl rfl rfl) ?_
    refine s_q rfl rfl rfl (q_move rfl rfl) ?_
    refine s_or2 3 2 13 17 16 _ _ rfl rfl rfl rfl rfl rfl (fun h17 => by
        try simp at h17
        refine s_g rfl rfl rfl rfl rfl rfl (q_move rfl rfl) ?_
        refine s_g rfl rfl rfl rfl rfl rfl (q_len_str rfl Try.underlying9 rfl) ?_
        refine s_g rfl rfl rfl rfl rfl rfl (q_gtr rfl rfl rfl) ?_
        exact s_val rfl
      ) (wanted_n rfl) rfl rfl rfl ?_
    refine s_q rfl rfl rfl (q_move rfl rfl) ?_
    refine s_or2 3 7 18 22 21 _ _ rfl rfl rfl rfl rfl rfl (fun h22 => by
        try simp at h22
        have hm0 : 0 < m.length := List.length_pos_iff.2 h22.1
        refine s_g rfl rfl rfl rfl rfl rfl (q_move rfl rfl) ?_
        refine s_g rfl rfl rfl rfl rfl rfl ((by first | exact q_index_strN rfl Try.underlying9 rfl rfl (by omega) | exact q_index_str rfl Try.underlying9 rfl rfl (by omega))) ?_
        refine s_g rfl rfl rfl rfl rfl rfl (q_eql_u8c rfl rfl rfl rfl) ?_
        exact s_val rfl
      ) (wanted_n rfl) rfl rfl rfl ?_
    refine s_done ?_
    refine n_then ?_
    refine t_cond rfl (fun hc1 => ?_) (fun hc1 => ?_)
    · skip
      refine t_seq ?_
      refine t_region ?_
      refine l_q rfl rfl rfl (q_assign rfl rfl) ?_
      refine l_nil ?_
      refine n_then ?_
      refine t_ret ?_
      refine n_ret_then ?_
      refine n_ret1 rfl rfl (fun w' hw => ?_)
      -- leaf 0
      exact ⟨rfl, hw.below⟩
    · skip
      have h1 : (decide (m = []) || decide ((20 : Int) < (m.length : Int)) || decide (nth m 0 0 = 33)) = false := hc1
      rw [Bool.or_eq_false_iff, Bool.or_eq_false_iff, decide_eq_false_iff_not, decide_eq_false_iff_not, decide_eq_false_iff_not] at h1
      have h12 := h1.1.2
      refine t_skip ?_
      refine n_then ?_
      refine t_seq ?_
      refine t_seq ?_
      refine t_region ?_
      refine l_q rfl rfl rfl (q_assign rfl rfl) ?_
      refine l_nil ?_
      refine n_then ?_
      refine t_block ?_
      refine t_loopE (ι := Nat) (fun zz => zz ≤ m.length ∧ ∀ j, j < zz → nth m j 0 ≠ 91 ∧ nth m j 0 ≠ 93 ∧ nth m j 0 ≠ 92) (fun zz => m.length - zz) (fun zz => [(5, .int .i64 (zz : Int))]) [(0, _), (1, _), (10, _), (22, _)] (fun zz => look w) (fun zz => []) 0 ?_ (sub_cons rfl sub_nil) (sub_cons rfl (sub_cons rfl (sub_cons rfl (sub_cons rfl sub_nil)))) (fun _ h => subC_st h) ?_
      · try dsimp only
        exact ⟨Nat.zero_le _, fun j hj => absurd hj (Nat.not_lt_zero j)⟩
      rintro i ⟨hi, hno⟩
      try dsimp only at *
      refine t_seq ?_
      refine t_seq ?_
      refine t_region ?_
      refine l_q rfl rfl rfl (q_move rfl rfl) ?_
      refine l_q rfl rfl rfl (q_move rfl rfl) ?_
      refine l_q rfl rfl rfl (q_len_str rfl Try.underlying9 rfl) ?_
      refine l_q rfl rfl rfl (q_lss rfl rfl rfl) ?_
      refine l_nil ?_
      refine n_then ?_
      refine t_cond rfl (fun hc2 => ?_) (fun hc2 => ?_)
      · skip
        try simp at hc2
        refine t_skip ?_
        refine n_then ?_
        refine t_seq ?_
        refine t_block ?_
        refine t_seq ?_
        refine t_qreg ?_
        refine s_q rfl rfl rfl (q_move rfl rfl) ?_
        refine s_q rfl rfl rfl (q_move rfl rfl) ?_
        refine s_q rfl rfl rfl ((by first | exact q_index_strN rfl Try.underlying9 rfl rfl (by omega) | exact q_index_str rfl Try.underlying9 rfl rfl (by omega))) ?_
        refine s_q rfl rfl rfl (q_eql_u8c rfl rfl rfl rfl) ?_
        refine s_q rfl rfl rfl (q_move rfl rfl) ?_
        refine s_or2 4 4 33 38 37 _ _ rfl rfl rfl rfl rfl rfl (fun h38 => by
            try simp at h38
            refine s_g rfl rfl rfl rfl rfl rfl (q_move rfl rfl) ?_
            refine s_g rfl rfl rfl rfl rfl rfl (q_move rfl rfl) ?_
            refine s_g rfl rfl rfl rfl rfl rfl ((by first | exact q_index_strN rfl Try.underlying9 rfl rfl (by omega) | exact q_index_str rfl Try.underlying9 rfl rfl (by omega))) ?_
            refine s_g rfl rfl rfl rfl rfl rfl (q_eql_u8c rfl rfl rfl rfl) ?_
            exact s_val rfl
          ) (wanted_n rfl) rfl rfl rfl ?_
        refine s_q rfl rfl rfl (q_move rfl rfl) ?_
        refine s_or2 4 10 39 44 43 _ _ rfl rfl rfl rfl rfl rfl (fun h44 => by
            try simp at h44
            refine s_g rfl rfl rfl rfl rfl rfl (q_move rfl rfl) ?_
            refine s_g rfl rfl rfl rfl rfl rfl (q_move rfl rfl) ?_
            refine s_g rfl rfl rfl rfl rfl rfl ((by first | exact q_index_strN rfl Try.underlying9 rfl rfl (by omega) | exact q_index_str rfl Try.underlying9 rfl rfl (by omega))) ?_
            refine s_g rfl rfl rfl rfl rfl rfl (q_eql_u8c rfl rfl rfl rfl) ?_
            exact s_val rfl
          ) (wanted_n rfl) rfl rfl rfl ?_
        refine s_done ?_
        refine n_then ?_
        refine t_cond rfl (fun hc3 => ?_) (fun hc3 => ?_)
        · skip
          refine t_seq ?_
          refine t_region ?_
          refine l_q rfl rfl rfl (q_assign rfl rfl) ?_
          refine l_nil ?_
          refine n_then ?_
          refine t_ret ?_
          refine n_ret_block ?_
          refine n_ret_then ?_
          refine n_ret_then ?_
          refine n_ret_block ?_
          refine n_ret_then ?_
          refine n_ret1 rfl rfl (fun w' hw => ?_)
          -- leaf 1
          exact ⟨rfl, hw.below⟩
        · skip
          refine t_skip ?_
          refine n_block ?_
          refine n_then ?_
          refine t_region ?_
          refine l_q rfl rfl rfl (q_move rfl rfl) ?_
          refine l_q rfl rfl rfl (q_add64 rfl rfl rfl (by omega)) ?_
          refine l_q rfl rfl rfl (q_assign rfl rfl) ?_
          refine l_nil ?_
          refine n_roundE (i + 1) ?_ ?_ (sub_cons rfl sub_nil) (sub_cons rfl (sub_cons rfl (sub_cons rfl (sub_cons rfl sub_nil)))) (fun _ h => by try dsimp only; exact subC_st h)
          · try dsimp only
            refine ⟨by omega, fun j hj => ?_⟩
            rcases Nat.lt_succ_iff_lt_or_eq.1 hj with h | rfl
            · exact hno j h
            · have h3 : (decide (nth m j 0 = 91) || decide (nth m j 0 = 93) || decide (nth m j 0 = 92)) = false := hc3
              simp only [Bool.or_eq_false_iff, decide_eq_false_iff_not] at h3
              exact ⟨h3.1.1, h3.1.2, h3.2⟩
          · try dsimp only
            omega
      · skip
        try simp at hc2
        refine t_exit ?_
        refine n_exit_then ?_
        refine n_exit_then ?_
        refine n_exit_block ?_
        refine n_then ?_
        refine t_seq ?_
        refine t_region ?_
        refine l_q rfl rfl rfl (q_move rfl rfl) ?_
        refine l_e rfl rfl rfl (e_buildSlice1 rfl Try.underlying31 ti5 rfl rfl rfl (by first | exact One.cells (by assumption) | rfl) rfl) ?_
        rintro _ _ _ ⟨b46, rfl, rfl, rfl⟩
        refine l_heap (H' := tvec 5 1 byC (.slice (some ⟨b46, 0, none⟩) 1 1) [c] :: _) ?_ (fun _ h => st_rowVec h rfl (by decide))
        refine l_q rfl rfl rfl (q_bytes_str (l := [c]) rfl Try.underlying31 Try.underlying9 Try.underlying5 rfl) ?_
        refine l_q rfl rfl rfl (q_assign rfl rfl) ?_
        refine l_nil ?_
        refine n_then ?_
        refine t_seq ?_
        refine t_region ?_
        refine l_q rfl rfl rfl (q_move rfl rfl) ?_
        refine l_q rfl rfl rfl (q_cat rfl rfl rfl (by first | omega | (simp only [List.length_append, List.length_cons, List.length_nil, List.length_take, List.length_drop]; omega))) ?_
        refine l_q rfl rfl rfl (q_cat rfl rfl rfl (by first | omega | (simp only [List.length_append, List.length_cons, List.length_nil, List.length_take, List.length_drop]; omega))) ?_
        refine l_e rfl rfl rfl (eff_call rfl rfl rfl Try.func13 (by kernel_rfl) rfl (fun w hw => of_calls ([91] ++ m ++ [93]) _ _ _ w (by simp; omega) hw)) ?_
        rintro v51 J51 _ ⟨hJ51, rfl, hs51⟩
        refine l_q rfl rfl rfl (q_move rfl rfl) ?_
        refine l_q rfl rfl rfl (quiet_call rfl rfl rfl Try.func12 (by kernel_rfl) rfl ((fun w hw => match_pure v51 (ofP ([91] ++ m ++ [93])) [c] w (Nat.le_trans (ofP_len _ _ (Nat.le_refl _)) (by simp; omega)) (by simp) (hs51.mono (Le.of_st hw))))) ?_
        refine l_q rfl rfl rfl (q_assign rfl rfl) ?_
        refine l_nil ?_
        refine n_then ?_
        refine t_seq ?_
        refine t_region ?_
        refine l_q rfl rfl rfl (q_move rfl rfl) ?_
        refine l_q rfl rfl rfl (q_cat rfl rfl rfl (by first | omega | (simp only [List.length_append, List.length_cons, List.length_nil, List.length_take, List.length_drop]; omega))) ?_
        refine l_q rfl rfl rfl (q_cat rfl rfl rfl (by first | omega | (simp only [List.length_append, List.length_cons, List.length_nil, List.length_take, List.length_drop]; omega))) ?_
        refine l_e rfl rfl rfl (eff_call rfl rfl rfl Try.func13 (by kernel_rfl) rfl (fun w hw => of_calls ([91, 33] ++ m ++ [93]) _ _ _ w (by simp; omega) hw)) ?_
        rintro v57 J57 _ ⟨hJ57, rfl, hs57⟩
        refine l_q rfl rfl rfl (q_move rfl rfl) ?_
        refine l_q rfl rfl rfl (quiet_call rfl rfl rfl Try.func12 (by kernel_rfl) rfl ((fun w hw => match_pure v57 (ofP ([91, 33] ++ m ++ [93])) [c] w (Nat.le_trans (ofP_len _ _ (Nat.le_refl _)) (by simp; omega)) (by simp) (hs57.mono (Le.of_st hw))))) ?_
        refine l_q rfl rfl rfl (q_assign rfl rfl) ?_
        refine l_nil ?_
        refine n_then ?_
        refine t_seq ?_
        have hall : ∀ b ∈ m, b ≠ 91 ∧ b ≠ 93 ∧ b ≠ 92 := fun b hb => by
          obtain ⟨j, hj, rfl⟩ := List.getElem_of_mem hb
          have := hno j (by omega)
          rwa [nth_eq hj] at this
        have hlaw := turned_law h1.1.1 h1.2 hall c
        refine t_region ?_
        refine l_q rfl rfl rfl (q_move rfl rfl) ?_
        refine l_q rfl rfl rfl (q_move rfl rfl) ?_
        refine l_q rfl rfl rfl (q_neq_bool rfl Try.underlying4 rfl rfl) ?_
        refine l_q rfl rfl rfl (q_move rfl rfl) ?_
        refine l_split (t := 63) rfl (fun hs0 => ?_) (fun hs0 => ?_)
        · skip
          refine l_eg (wanted_g rfl rfl rfl rfl) rfl rfl (eff_call rfl rfl rfl Try.func13 (by kernel_rfl) rfl (fun w hw => of_calls [63] _ _ _ w (by decide) hw)) ?_
          rintro v64 J64 _ ⟨hJ64, rfl, hs64⟩
          refine l_qg (wanted_g rfl rfl rfl rfl) rfl rfl (q_move rfl rfl) ?_
          refine l_qg (wanted_g rfl rfl rfl rfl) rfl rfl (quiet_call rfl rfl rfl Try.func12 (by kernel_rfl) rfl ((fun w hw => match_pure v64 (ofP [63]) [c] w (by decide) (by simp) (hs64.mono (Le.of_st hw))))) ?_
          refine l_q rfl rfl rfl (q_pick rfl rfl rfl rfl) ?_
          refine l_q rfl rfl rfl (q_move rfl rfl) ?_
          refine l_split (t := 68) rfl (fun hs1 => ?_) (fun hs1 => ?_)
          · skip
            refine l_eg (wanted_g rfl rfl rfl rfl) rfl rfl (eff_call rfl rfl rfl Try.func13 (by kernel_rfl) rfl (fun w hw => of_calls [63] _ _ _ w (by decide) hw)) ?_
            rintro v69 J69 _ ⟨hJ69, rfl, hs69⟩
            refine l_qg (wanted_g rfl rfl rfl rfl) rfl rfl (q_move rfl rfl) ?_
            refine l_qg (wanted_g rfl rfl rfl rfl) rfl rfl (q_move rfl rfl) ?_
            refine l_qg (wanted_g rfl rfl rfl rfl) rfl rfl (q_cat rfl rfl rfl (by first | omega | (simp only [List.length_append, List.length_cons, List.length_nil, List.length_take, List.length_drop]; omega))) ?_
            refine l_qg (wanted_g rfl rfl rfl rfl) rfl rfl (quiet_call rfl rfl rfl Try.func12 (by kernel_rfl) rfl ((fun w hw => match_pure v69 (ofP [63]) ([c] ++ [c]) w (by decide) (by simp) (hs69.mono (Le.of_st hw))))) ?_
            refine l_qg (wanted_g rfl rfl rfl rfl) rfl rfl (q_not rfl rfl) ?_
            refine l_q rfl rfl rfl (q_pick rfl rfl rfl rfl) ?_
            refine l_q rfl rfl rfl (q_move rfl rfl) ?_
            refine l_split (t := 76) rfl (fun hs2 => ?_) (fun hs2 => ?_)
            · skip
              refine l_eg (wanted_g rfl rfl rfl rfl) rfl rfl (eff_call rfl rfl rfl Try.func13 (by kernel_rfl) rfl (fun w hw => of_calls [63] _ _ _ w (by decide) hw)) ?_
              rintro v77 J77 _ ⟨hJ77, rfl, hs77⟩
              refine l_qg (wanted_g rfl rfl rfl rfl) rfl rfl (quiet_call rfl rfl rfl Try.func12 (by kernel_rfl) rfl ((fun w hw => match_pure v77 (ofP [63]) [] w (by decide) (by simp) (hs77.mono (Le.of_st hw))))) ?_
              refine l_qg (wanted_g rfl rfl rfl rfl) rfl rfl (q_not rfl rfl) ?_
              refine l_q rfl rfl rfl (q_pick rfl rfl rfl rfl) ?_
              refine l_q rfl rfl rfl (q_assign rfl rfl) ?_
              refine l_nil ?_
              refine n_then ?_
              refine t_ret ?_
              refine n_ret1 rfl rfl (fun w' hw => ?_)
              -- leaf 2
              refine ⟨?_, (hw.less ((((hJ51.trans hJ57).trans hJ64).trans hJ69).trans hJ77)).below⟩
              show Ending.returned (Value.bool (!Mt (ofP [63]) [])) = _
              rw [(any_one' c).2.2]; rfl
            · skip
              exact absurd hs2 (by rw [(any_one' c).2.1]; simp)
          · skip
            exact absurd hs1 (by rw [(any_one' c).1]; simp)
        · skip
          exfalso
          rw [hlaw] at hs0
          cases hx : Mt (ofP ([91, 33] ++ m ++ [93])) [c] <;> rw [hx] at hs0 <;> cases hs0
end Go.Tri
