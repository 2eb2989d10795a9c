/-
  The statements walked: matches, cuts.
-/
import Derived.Test.YtlhjbemcapnmjaaPA10
namespace Go.Tri
open Go.Proofs Go.RowKit
set_option maxRecDepth 10000 in
theorem awake_pure (w : World) : Pure Try.prog 9 [] w (.bool true) := by
  refine enter Try.func9 rfl Try.ntmps9 rfl (St.start w (look w) (Le.refl _)) ?_
  refine t_seq ?_
  refine t_region ?_
  refine l_q rfl rfl rfl (q_assign rfl rfl) ?_
  refine l_nil ?_
  refine n_then ?_
  refine t_seq ?_
  refine t_region ?_
  refine l_e rfl rfl rfl (eff_call rfl rfl rfl Try.func13 (by kernel_rfl) rfl (fun w hw => of_calls [97, 42, 91, 98, 45, 100, 93] _ _ _ w (by decide) hw)) ?_
  rintro v1 J1 _ ⟨hJ1, rfl, hs1⟩
  refine l_q rfl rfl rfl (quiet_call rfl rfl rfl Try.func12 (by kernel_rfl) rfl ((fun w hw => match_pure v1 (ofP [97, 42, 91, 98, 45, 100, 93]) [97, 120, 120, 99] w (by decide) (by simp) (hs1.mono (Le.of_st hw))))) ?_
  refine l_q rfl rfl rfl (q_move rfl rfl) ?_
  refine l_split (t := 3) rfl (fun hs0 => ?_) (fun hs0 => ?_)
  · skip
    refine l_eg (wanted_g rfl rfl rfl rfl) rfl rfl (eff_call rfl rfl rfl Try.func13 (by kernel_rfl) rfl (fun w hw => of_calls [91, 33, 97, 93] _ _ _ w (by decide) hw)) ?_
    rintro v4 J4 _ ⟨hJ4, rfl, hs4⟩
    refine l_qg (wanted_g rfl rfl rfl rfl) rfl rfl (quiet_call rfl rfl rfl Try.func12 (by kernel_rfl) rfl ((fun w hw => match_pure v4 (ofP [91, 33, 97, 93]) [97] w (by decide) (by simp) (hs4.mono (Le.of_st hw))))) ?_
    refine l_qg (wanted_g rfl rfl rfl rfl) rfl rfl (q_not rfl rfl) ?_
    refine l_q rfl rfl rfl (q_pick rfl rfl rfl rfl) ?_
    refine l_q rfl rfl rfl (q_move rfl rfl) ?_
    refine l_split (t := 8) rfl (fun hs1 => ?_) (fun hs1 => ?_)
    · skip
      refine l_eg (wanted_g rfl rfl rfl rfl) rfl rfl (eff_call rfl rfl rfl Try.func13 (by kernel_rfl) rfl (fun w hw => of_calls [42, 46] _ _ _ w (by decide) hw)) ?_
      rintro v9 J9 _ ⟨hJ9, rfl, hs9⟩
      refine l_qg (wanted_g rfl rfl rfl rfl) rfl rfl (quiet_call rfl rfl rfl Try.func10 (by kernel_rfl) rfl ((fun w hw => cut_pure v9 (ofP [42, 46]) [97, 46, 98, 46, 99] false false w (by decide) (by decide) (hs9.mono (Le.of_st hw))))) ?_
      refine l_qg (wanted_g rfl rfl rfl rfl) rfl rfl (q_eql_str rfl rfl rfl) ?_
      refine l_q rfl rfl rfl (q_pick rfl rfl rfl rfl) ?_
      refine l_q rfl rfl rfl (q_assign rfl rfl) ?_
      refine l_nil ?_
      refine n_then ?_
      refine t_ret ?_
      refine n_ret1 rfl rfl (fun w' hw => ?_)
      -- leaf 0
      refine ⟨?_, (hw.less (hJ1.trans (hJ4.trans hJ9))).below⟩
      exact congrArg (fun b => Ending.returned (Value.bool b)) (by decide +kernel : decide (cutP (ofP [42, 46]) [97, 46, 98, 46, 99] false false = [98, 46, 99]) = true)
    · skip
      exact absurd hs1 (by decide +kernel)
  · skip
    exact absurd hs0 (by decide +kernel)
set_option maxRecDepth 10000 in
theorem patternMatches_pure (v : Value) (p : List Ch) (s : List UInt8) (w : World) (hp : p.length ≤ 4611686018427387904) (hs : s.length ≤ 4611686018427387904) (hv : Sl (look w) 2 v (p.map chC)) : Pure Try.prog 7 [v, str s] w (.bool true) := by
  refine enter Try.func7 rfl Try.ntmps7 rfl (St.start w (look w) (Le.refl _)) ?_
  refine t_seq ?_
  refine t_region ?_
  refine l_q rfl rfl rfl (q_assign rfl rfl) ?_
  refine l_nil ?_
  refine n_then ?_
  refine t_seq ?_
  refine t_seq ?_
  refine t_region ?_
  refine l_q rfl rfl rfl (quiet_call rfl rfl rfl Try.func9 (by kernel_rfl) rfl ((fun w _ => awake_pure w))) ?_
  refine l_q rfl rfl rfl (q_not rfl rfl) ?_
  refine l_nil ?_
  refine n_then ?_
  refine t_cond rfl (fun hc0 => ?_) (fun hc0 => ?_)
  · skip
    try simp at hc0
  · skip
    try simp at hc0
    refine t_skip ?_
    refine n_then ?_
    refine t_seq ?_
    refine t_seq ?_
    refine t_qreg ?_
    refine s_q rfl rfl rfl (q_move rfl rfl) ?_
    refine s_q rfl rfl rfl ((by first | exact q_lenV rfl Try.underlying22 rfl | exact q_len rfl Try.underlying22 rfl (Sl.lenOf hv (List.length_map _)))) ?_
    refine s_q rfl rfl rfl (q_gtr rfl rfl rfl) ?_
    refine s_q rfl rfl rfl (q_move rfl rfl) ?_
    refine s_or2 3 3 11 15 14 _ _ rfl rfl rfl rfl rfl rfl (fun h15 => by
        try simp at h15
        refine s_g rfl rfl rfl rfl rfl rfl (q_move rfl rfl) ?_
        refine s_g rfl rfl rfl rfl rfl rfl (q_len_str rfl Try.underlying9 rfl) ?_
        refine s_g rfl rfl rfl rfl rfl rfl (q_gtr rfl rfl rfl) ?_
        exact s_val rfl
      ) (wanted_n rfl) rfl rfl rfl ?_
    refine s_done ?_
    refine n_then ?_
    refine t_cond rfl (fun hc1 => ?_) (fun hc1 => ?_)
    · skip
      refine t_seq ?_
      refine t_region ?_
      refine l_q rfl rfl rfl (q_assign rfl rfl) ?_
      refine l_nil ?_
      refine n_then ?_
      refine t_ret ?_
      refine n_ret_then ?_
      refine n_ret1 rfl rfl (fun w' hw => ?_)
      -- leaf 0
      exact ⟨rfl, hw.below⟩
    · skip
      have h1 : (decide ((400 : Int) < (p.length : Int)) || decide ((400 : Int) < (s.length : Int))) = false := hc1
      rw [Bool.or_eq_false_iff, decide_eq_false_iff_not, decide_eq_false_iff_not] at h1
      have hp4 : p.length ≤ 400 := by omega
      have hs4 : s.length ≤ 400 := by omega
      refine t_skip ?_
      refine n_then ?_
      refine t_seq ?_
      refine t_region ?_
      refine l_e rfl rfl rfl (e_buildSlice0 rfl Try.underlying22 ti29) ?_
      rintro v16 _ _ ⟨⟨b16, hb16⟩, rfl, rfl⟩
      refine l_q rfl rfl rfl (q_move rfl rfl) ?_
      refine l_e rfl rfl rfl (e_appendSl (f := chC) (l := []) rfl Try.underlying22 ti29 rfl rfl rfl rfl (hv) rfl (fun _ => rfl) chC_ones (by simp only [maxLen, List.length_nil]; omega) (by simp only [List.length_nil]; omega)) ?_
      rintro v18 _ _ ⟨rfl, rfl⟩
      refine l_freezeT (f := chC) (l := [] ++ p) v18 (fun _ => rfl) (fun J hJ hs18 => ?_)
      have hv' := hv.mono hJ
      rw [List.nil_append] at hs18
      refine l_q rfl rfl rfl (q_assign rfl rfl) ?_
      refine l_nil ?_
      refine n_then ?_
      refine t_seq ?_
      refine t_qreg ?_
      refine s_q rfl rfl rfl (q_move rfl rfl) ?_
      refine s_q rfl rfl rfl (q_move rfl rfl) ?_
      refine s_q rfl rfl rfl (quiet_call rfl rfl rfl Try.func12 (by kernel_rfl) rfl ((fun w hw => match_pure v18 p s w (by omega) (by omega) (hs18.mono (Le.of_st hw))))) ?_
      refine s_q rfl rfl rfl (q_move rfl rfl) ?_
      refine s_q rfl rfl rfl (q_move rfl rfl) ?_
      refine s_q rfl rfl rfl (quiet_call rfl rfl rfl Try.func14 (by kernel_rfl) rfl ((fun w hw => refMatch_pure v p s w (by omega) (by omega) (hv'.mono (Le.of_st hw))))) ?_
      refine s_q rfl rfl rfl (q_eql_bool rfl Try.underlying4 rfl rfl) ?_
      refine s_q rfl rfl rfl (q_move rfl rfl) ?_
      refine s_and2 5 7 26 32 31 _ _ rfl rfl rfl rfl rfl rfl (fun h32 => by
          try simp at h32
          refine s_g rfl rfl rfl rfl rfl rfl (q_move rfl rfl) ?_
          refine s_g rfl rfl rfl rfl rfl rfl (quiet_call rfl rfl rfl Try.func15 (by kernel_rfl) rfl ((fun w hw => wild_pure v18 p w (by omega) (hs18.mono (Le.of_st hw))))) ?_
          refine s_g rfl rfl rfl rfl rfl rfl (q_move rfl rfl) ?_
          refine s_g rfl rfl rfl rfl rfl rfl (quiet_call rfl rfl rfl Try.func16 (by kernel_rfl) rfl ((fun w hw => refWild_pure v p w (by omega) (hv'.mono (Le.of_st hw))))) ?_
          refine s_g rfl rfl rfl rfl rfl rfl (q_eql_bool rfl Try.underlying4 rfl rfl) ?_
          exact s_val rfl
        ) (wanted_n rfl) rfl rfl rfl ?_
      refine s_q rfl rfl rfl (q_move rfl rfl) ?_
      refine s_and2 3 14 33 37 36 _ _ rfl rfl rfl rfl rfl rfl (fun h37 => by
          try simp at h37
          refine s_g rfl rfl rfl rfl rfl rfl (q_move rfl rfl) ?_
          refine s_g rfl rfl rfl rfl rfl rfl (q_move rfl rfl) ?_
          refine s_g rfl rfl rfl rfl rfl rfl (quiet_call rfl rfl rfl Try.func17 (by kernel_rfl) rfl ((fun w hw => same_pure v18 v p p w (by omega) (by omega) (hs18.mono (Le.of_st hw)) (hv'.mono (Le.of_st hw))))) ?_
          exact s_val rfl
        ) (wanted_n rfl) rfl rfl rfl ?_
      refine s_q rfl rfl rfl (q_assign rfl rfl) ?_
      refine s_done ?_
      refine n_then ?_
      refine t_ret ?_
      refine n_ret1 rfl rfl (fun w' hw => ?_)
      -- leaf 1
      refine ⟨?_, (hw.less hJ).below⟩
      simp
set_option maxRecDepth 10000 in
theorem patternCuts_pure (v : Value) (p : List Ch) (s : List UInt8) (e lg : Bool) (w : World) (hp : p.length ≤ 4611686018427387904) (hs : s.length ≤ 4611686018427387904) (hv : Sl (look w) 2 v (p.map chC)) : Pure Try.prog 3 [v, str s, .agg #[.bool e, .bool lg]] w (.bool true) := by
  have hcl := cut_law p s e lg
  have hcl1 := hcl.1
  refine enter Try.func3 rfl Try.ntmps3 rfl (St.start w (look w) (Le.refl _)) ?_
  refine t_seq ?_
  refine t_region ?_
  refine l_e rfl rfl rfl (e_box rfl rfl rfl) ?_
  rintro _ _ _ ⟨b5, rfl, rfl, rfl⟩
  refine l_q rfl rfl rfl (q_assign rfl rfl) ?_
  refine l_nil ?_
  refine n_then ?_
  refine t_seq ?_
  refine t_seq ?_
  refine t_region ?_
  refine l_q rfl rfl rfl (quiet_call rfl rfl rfl Try.func9 (by kernel_rfl) rfl ((fun w _ => awake_pure w))) ?_
  refine l_q rfl rfl rfl (q_not rfl rfl) ?_
  refine l_nil ?_
  refine n_then ?_
  refine t_cond rfl (fun hc0 => ?_) (fun hc0 => ?_)
  · skip
    try simp at hc0
  · skip
    try simp at hc0
    refine t_skip ?_
    refine n_then ?_
    refine t_seq ?_
    refine t_seq ?_
    refine t_qreg ?_
    refine s_q rfl rfl rfl (q_move rfl rfl) ?_
    refine s_q rfl rfl rfl ((by first | exact q_lenV rfl Try.underlying22 rfl | exact q_len rfl Try.underlying22 rfl (Sl.lenOf hv (List.length_map _)))) ?_
    refine s_q rfl rfl rfl (q_gtr rfl rfl rfl) ?_
    refine s_q rfl rfl rfl (q_move rfl rfl) ?_
    refine s_or2 3 3 13 17 16 _ _ rfl rfl rfl rfl rfl rfl (fun h17 => by
        try simp at h17
        refine s_g rfl rfl rfl rfl rfl rfl (q_move rfl rfl) ?_
        refine s_g rfl rfl rfl rfl rfl rfl (q_len_str rfl Try.underlying9 rfl) ?_
        refine s_g rfl rfl rfl rfl rfl rfl (q_gtr rfl rfl rfl) ?_
        exact s_val rfl
      ) (wanted_n rfl) rfl rfl rfl ?_
    refine s_done ?_
    refine n_then ?_
    refine t_cond rfl (fun hc1 => ?_) (fun hc1 => ?_)
    · skip
      refine t_seq ?_
      refine t_region ?_
      refine l_q rfl rfl rfl (q_assign rfl rfl) ?_
      refine l_nil ?_
      refine n_then ?_
      refine t_ret ?_
      refine n_ret_then ?_
      refine n_ret1 rfl rfl (fun w' hw => ?_)
      -- leaf 0
      exact ⟨rfl, hw.below⟩
    · skip
      have h1 : (decide ((60 : Int) < (p.length : Int)) || decide ((60 : Int) < (s.length : Int))) = false := hc1
      rw [Bool.or_eq_false_iff, decide_eq_false_iff_not, decide_eq_false_iff_not] at h1
      have hp4 : p.length ≤ 60 := by omega
      have hs4 : s.length ≤ 60 := by omega
      refine t_skip ?_
      refine n_then ?_
      refine t_seq ?_
      refine t_region ?_
      refine l_q rfl rfl rfl (q_move rfl rfl) ?_
      refine l_q rfl rfl rfl (q_move rfl rfl) ?_
      refine l_q rfl rfl rfl (q_indexAddr_arr rfl Try.underlying23 ti4 rfl rfl (by omega)) ?_
      refine l_q rfl rfl rfl (q_load_row rfl Try.underlying4 rfl rfl (by rfl)) ?_
      refine l_q rfl rfl rfl (q_indexAddr_arr rfl Try.underlying23 ti4 rfl rfl (by omega)) ?_
      refine l_q rfl rfl rfl (q_load_row rfl Try.underlying4 rfl rfl (by rfl)) ?_
      refine l_q rfl rfl rfl (quiet_call rfl rfl rfl Try.func10 (by kernel_rfl) rfl ((fun w hw => cut_pure v p s e lg w (by omega) (by omega) (hv.mono (Le.of_st hw))))) ?_
      refine l_q rfl rfl rfl (q_assign rfl rfl) ?_
      refine l_nil ?_
      refine n_then ?_
      refine t_seq ?_
      refine t_seq ?_
      refine t_region ?_
      refine l_q rfl rfl rfl (q_move rfl rfl) ?_
      refine l_q rfl rfl rfl (q_move rfl rfl) ?_
      refine l_q rfl rfl rfl (q_move rfl rfl) ?_
      refine l_q rfl rfl rfl (q_indexAddr_arr rfl Try.underlying23 ti4 rfl rfl (by omega)) ?_
      refine l_q rfl rfl rfl (q_load_row rfl Try.underlying4 rfl rfl (by rfl)) ?_
      refine l_q rfl rfl rfl (q_indexAddr_arr rfl Try.underlying23 ti4 rfl rfl (by omega)) ?_
      refine l_q rfl rfl rfl (q_load_row rfl Try.underlying4 rfl rfl (by rfl)) ?_
      refine l_q rfl rfl rfl (quiet_call rfl rfl rfl Try.func11 (by kernel_rfl) rfl ((fun w hw => refCut_pure v p s e lg w (by omega) (by omega) (hv.mono (Le.of_st hw))))) ?_
      refine l_q rfl rfl rfl (q_neq_str rfl rfl rfl) ?_
      refine l_nil ?_
      refine n_then ?_
      refine t_cond rfl (fun hc2 => ?_) (fun hc2 => ?_)
      · skip
        try simp at hc2
      · skip
        try simp at hc2
        refine t_skip ?_
        refine n_then ?_
        refine t_seq ?_
        refine t_seq ?_
        refine t_region ?_
        refine l_q rfl rfl rfl (q_move rfl rfl) ?_
        refine l_q rfl rfl rfl (q_len_str rfl Try.underlying9 rfl) ?_
        refine l_q rfl rfl rfl (q_move rfl rfl) ?_
        refine l_q rfl rfl rfl (q_len_str rfl Try.underlying9 rfl) ?_
        refine l_q rfl rfl rfl (q_gtr rfl rfl rfl) ?_
        refine l_nil ?_
        refine n_then ?_
        refine t_cond rfl (fun hc3 => ?_) (fun hc3 => ?_)
        · skip
          try simp at hc3
          exfalso; omega
        · skip
          try simp at hc3
          refine t_skip ?_
          refine n_then ?_
          refine t_seq ?_
          refine t_seq ?_
          refine t_region ?_
          refine l_q rfl rfl rfl (q_indexAddr_arr rfl Try.underlying23 ti4 rfl rfl (by omega)) ?_
          refine l_q rfl rfl rfl (q_load_row rfl Try.underlying4 rfl rfl (by rfl)) ?_
          refine l_nil ?_
          refine n_then ?_
          refine t_cond rfl (fun hc4 => ?_) (fun hc4 => ?_)
          · skip
            refine t_seq ?_
            refine t_qreg ?_
            refine s_q rfl rfl rfl (q_move rfl rfl) ?_
            refine s_q rfl rfl rfl (q_move rfl rfl) ?_
            refine s_q rfl rfl rfl (q_move rfl rfl) ?_
            refine s_q rfl rfl rfl (q_len_str rfl Try.underlying9 rfl) ?_
            refine s_q rfl rfl rfl (q_slice_str_to rfl Try.underlying9 rfl rfl (by omega)) ?_
            refine s_q rfl rfl rfl (q_eql_str rfl rfl rfl) ?_
            refine s_q rfl rfl rfl (q_move rfl rfl) ?_
            refine s_and2 11 6 47 59 58 _ _ rfl rfl rfl rfl rfl rfl (fun h59 => by
                try simp at h59
                refine s_g rfl rfl rfl rfl rfl rfl (q_move rfl rfl) ?_
                refine s_g rfl rfl rfl rfl rfl rfl (q_move rfl rfl) ?_
                refine s_g rfl rfl rfl rfl rfl rfl (q_eql_str rfl rfl rfl) ?_
                refine s_g rfl rfl rfl rfl rfl rfl (q_move rfl rfl) ?_
                refine s_or2 6 10 51 58 57 _ _ rfl rfl rfl rfl rfl rfl (fun h58 => by
                    try simp at h58
                    refine s_g rfl rfl rfl rfl rfl rfl (q_move rfl rfl) ?_
                    refine s_g rfl rfl rfl rfl rfl rfl (q_move rfl rfl) ?_
                    refine s_g rfl rfl rfl rfl rfl rfl (q_move rfl rfl) ?_
                    refine s_g rfl rfl rfl rfl rfl rfl (q_len_str rfl Try.underlying9 rfl) ?_
                    refine s_g rfl rfl rfl rfl rfl rfl (q_slice_str_from rfl Try.underlying9 rfl rfl (by omega)) ?_
                    refine s_g rfl rfl rfl rfl rfl rfl (quiet_call rfl rfl rfl Try.func12 (by kernel_rfl) rfl ((fun w hw => match_pure v p (s.drop ((cutP p s e lg).length : Int).toNat) w (by omega) (by simp; omega) (hv.mono (Le.of_st hw))))) ?_
                    exact s_val rfl
                  ) (wanted_g rfl rfl rfl rfl) rfl rfl rfl ?_
                exact s_val rfl
              ) (wanted_n rfl) rfl rfl rfl ?_
            refine s_q rfl rfl rfl (q_assign rfl rfl) ?_
            refine s_done ?_
            refine n_then ?_
            refine t_ret ?_
            refine n_ret_then ?_
            refine n_ret1 rfl rfl (fun w' hw => ?_)
            -- leaf 1
            refine ⟨?_, hw.below⟩
            obtain ⟨h2, h3⟩ := hcl.2.1 hc4
            have h4 : (decide (cutP p s e lg = s) || Mt p (s.drop ((cutP p s e lg).length : Int).toNat)) = true := by
              rcases h3 with h3 | h3
              · rw [decide_eq_true h3]; rfl
              · rw [show ((cutP p s e lg).length : Int).toNat = (cutP p s e lg).length from rfl, h3, Bool.or_true]
            rw [h4, Bool.and_true]
            exact congrArg (fun b => Ending.returned (Value.bool b)) (decide_eq_true h2)
          · skip
            refine t_skip ?_
            refine n_then ?_
            refine t_seq ?_
            refine t_qreg ?_
            refine s_q rfl rfl rfl (q_move rfl rfl) ?_
            refine s_q rfl rfl rfl (q_move rfl rfl) ?_
            refine s_q rfl rfl rfl (q_move rfl rfl) ?_
            refine s_q rfl rfl rfl (q_len_str rfl Try.underlying9 rfl) ?_
            refine s_q rfl rfl rfl (q_move rfl rfl) ?_
            refine s_q rfl rfl rfl (q_len_str rfl Try.underlying9 rfl) ?_
            refine s_q rfl rfl rfl (q_sub64 rfl rfl rfl (by omega)) ?_
            refine s_q rfl rfl rfl (q_slice_str_from rfl Try.underlying9 rfl rfl (by omega)) ?_
            refine s_q rfl rfl rfl (q_eql_str rfl rfl rfl) ?_
            refine s_q rfl rfl rfl (q_move rfl rfl) ?_
            refine s_and2 14 9 69 84 83 _ _ rfl rfl rfl rfl rfl rfl (fun h84 => by
                try simp at h84
                refine s_g rfl rfl rfl rfl rfl rfl (q_move rfl rfl) ?_
                refine s_g rfl rfl rfl rfl rfl rfl (q_move rfl rfl) ?_
                refine s_g rfl rfl rfl rfl rfl rfl (q_eql_str rfl rfl rfl) ?_
                refine s_g rfl rfl rfl rfl rfl rfl (q_move rfl rfl) ?_
                refine s_or2 9 13 73 83 82 _ _ rfl rfl rfl rfl rfl rfl (fun h83 => by
                    try simp at h83
                    refine s_g rfl rfl rfl rfl rfl rfl (q_move rfl rfl) ?_
                    refine s_g rfl rfl rfl rfl rfl rfl (q_move rfl rfl) ?_
                    refine s_g rfl rfl rfl rfl rfl rfl (q_move rfl rfl) ?_
                    refine s_g rfl rfl rfl rfl rfl rfl (q_len_str rfl Try.underlying9 rfl) ?_
                    refine s_g rfl rfl rfl rfl rfl rfl (q_move rfl rfl) ?_
                    refine s_g rfl rfl rfl rfl rfl rfl (q_len_str rfl Try.underlying9 rfl) ?_
                    refine s_g rfl rfl rfl rfl rfl rfl (q_sub64 rfl rfl rfl (by omega)) ?_
                    refine s_g rfl rfl rfl rfl rfl rfl (q_slice_str_to rfl Try.underlying9 rfl rfl (by omega)) ?_
                    refine s_g rfl rfl rfl rfl rfl rfl (quiet_call rfl rfl rfl Try.func12 (by kernel_rfl) rfl ((fun w hw => match_pure v p (s.take ((s.length : Int) - ((cutP p s e lg).length : Int)).toNat) w (by omega) (by simp; omega) (hv.mono (Le.of_st hw))))) ?_
                    exact s_val rfl
                  ) (wanted_g rfl rfl rfl rfl) rfl rfl rfl ?_
                exact s_val rfl
              ) (wanted_n rfl) rfl rfl rfl ?_
            refine s_q rfl rfl rfl (q_assign rfl rfl) ?_
            refine s_done ?_
            refine n_then ?_
            refine t_ret ?_
            refine n_ret1 rfl rfl (fun w' hw => ?_)
            -- leaf 2
            refine ⟨?_, hw.below⟩
            obtain ⟨h2, h3⟩ := hcl.2.2 hc4
            have e1 : ((s.length : Int) - ((cutP p s e lg).length : Int)).toNat = s.length - (cutP p s e lg).length := by omega
            rw [e1]
            have h4 : (decide (cutP p s e lg = s) || Mt p (s.take (s.length - (cutP p s e lg).length))) = true := by
              rcases h3 with h3 | h3
              · rw [decide_eq_true h3]; rfl
              · rw [h3, Bool.or_true]
            rw [h4, Bool.and_true]
            exact congrArg (fun b => Ending.returned (Value.bool b)) (decide_eq_true h2)
end Go.Tri
