/-
  The statement: ArithParens.
-/
import Derived.Test.YtjdcefhllbfacaaDoorAB4
import Derived.Test.YtjdcefhllbfacaaDoorPArN
namespace Go.Tri
open Go.Proofs Go.RowKit
theorem bl_step (b : Bool) (c : UInt8) : (b && ((decide (c = 9) || decide (c = 10)) || decide (c = 32))) = (b && [c].all (blS.contains ·)) := by
  have h : ((decide (c = 9) || decide (c = 10)) || decide (c = 32)) = blS.contains c := by
    revert c
    exact u8_all (p := fun c => ((decide (c = 9) || decide (c = 10)) || decide (c = 32)) = blS.contains c) (by decide +kernel)
  rw [h]; simp
theorem pn_on {a b : Nat} (h : (decide ((a : Int) = 0) && decide ((b : Int) = 0)) = true) : a = 0 ∧ b = 0 := by
  simp only [Bool.and_eq_true, decide_eq_true_eq] at h
  omega
theorem pn_off {a b : Nat} (h : (decide ((a : Int) = 0) && decide ((b : Int) = 0)) = false) : a = 0 → b ≠ 0 := fun ha hb => by
  subst ha hb
  cases h
theorem eval_len {s : List UInt8} {vs : List (List UInt8 × List UInt8)} (hs : s.length ≤ 1000000) : (evalP s vs).2.1.length ≤ 1000001 := by
  unfold evalP
  cases hr : readA s with
  | bad k => exact Nat.zero_le _
  | ok x =>
    simp only
    cases hw : workP vs x [] with
    | bad k => exact Nat.zero_le _
    | ok v S =>
      have h1 := workP_len x [] S v hw
      have h2 := readA_sz hs hr
      simp only [List.length_nil] at h1
      show S.length ≤ _
      omega
set_option maxRecDepth 10000 in
theorem arithParens_pure (s : List UInt8) (v : Value) (vars : List Vr) (w : World) (hs : s.length ≤ 1048576) (hv : Sl (look w) 5 v (vars.map vrC)) (hV : VarsOk vars) (hG : EnvI (look w)) : Pure Tryd.prog 3 [str s, v] w (.bool true) := by
  refine enter Tryd.func3 rfl Tryd.ntmps3 rfl (St.start w (look w) (Le.refl _)) ?_
  refine t_seq ?_
  refine t_region ?_
  refine l_q rfl rfl rfl (q_assign rfl rfl) ?_
  refine l_nil ?_
  refine n_then ?_
  refine t_seq ?_
  refine t_seq ?_
  refine t_region ?_
  refine l_q rfl rfl rfl (quiet_call rfl rfl rfl Tryd.func7 (by kernel_rfl) rfl ((fun w hw => awake_pure w (hG.mono hw.le)))) ?_
  refine l_q rfl rfl rfl (q_not rfl rfl) ?_
  refine l_nil ?_
  refine n_then ?_
  refine t_cond rfl (fun hc0 => ?_) (fun hc0 => ?_)
  · skip
    try simp at hc0
  · skip
    try simp at hc0
    refine t_skip ?_
    refine n_then ?_
    refine t_seq ?_
    refine t_seq ?_
    refine t_region ?_
    refine l_q rfl rfl rfl (q_move rfl rfl) ?_
    refine l_q rfl rfl rfl (q_len_str rfl Tryd.underlying9 rfl) ?_
    refine l_q rfl rfl rfl (q_gtr rfl rfl rfl) ?_
    refine l_nil ?_
    refine n_then ?_
    refine t_cond rfl (fun hc1 => ?_) (fun hc1 => ?_)
    · skip
      try simp at hc1
      refine t_seq ?_
      refine t_region ?_
      refine l_q rfl rfl rfl (q_assign rfl rfl) ?_
      refine l_nil ?_
      refine n_then ?_
      refine t_ret ?_
      refine n_ret_then ?_
      refine n_ret1 rfl rfl (fun w' hw => ?_)
      -- leaf 0
      exact ⟨rfl, hw.below⟩
    · skip
      try simp at hc1
      have hs2 : s.length ≤ 2000 := by omega
      refine t_skip ?_
      refine n_then ?_
      refine t_seq ?_
      refine t_region ?_
      refine l_q rfl rfl rfl (q_move rfl rfl) ?_
      refine l_q rfl rfl rfl (q_move rfl rfl) ?_
      refine l_e rfl rfl rfl (eff_call rfl rfl rfl Tryd.func8 (by kernel_rfl) rfl (fun w hw => eval_calls s v vars _ _ _ w (by omega) hv hV hG hw)) ?_
      rintro _ J21 _ ⟨hJ21, rfl, sl21, rfl, hs21⟩
      refine l_q rfl rfl rfl (q_move rfl rfl) ?_
      refine l_q rfl rfl rfl (q_extract rfl rfl rfl) ?_
      refine l_q rfl rfl rfl (q_extract rfl rfl rfl) ?_
      refine l_q rfl rfl rfl (q_extract rfl rfl rfl) ?_
      refine l_q rfl rfl rfl (q_assign rfl rfl) ?_
      refine l_q rfl rfl rfl (q_assign rfl rfl) ?_
      refine l_q rfl rfl rfl (q_assign rfl rfl) ?_
      refine l_nil ?_
      refine n_then ?_
      refine t_seq ?_
      refine t_region ?_
      refine l_q rfl rfl rfl (q_move rfl rfl) ?_
      refine l_q rfl rfl rfl (q_cat rfl rfl rfl (by first | omega | (simp only [List.length_append, List.length_cons, List.length_nil, List.length_take, List.length_drop]; omega))) ?_
      refine l_q rfl rfl rfl (q_cat rfl rfl rfl (by first | omega | (simp only [List.length_append, List.length_cons, List.length_nil, List.length_take, List.length_drop]; omega))) ?_
      refine l_q rfl rfl rfl (q_move rfl rfl) ?_
      refine l_e rfl rfl rfl (eff_call rfl rfl rfl Tryd.func8 (by kernel_rfl) rfl (fun w hw => eval_calls ([40] ++ s ++ [41]) v vars _ _ _ w (by simp only [List.length_append, List.length_cons, List.length_nil]; omega) (hv.mono hJ21) hV (hG.mono hJ21) hw)) ?_
      rintro _ J30 _ ⟨hJ30, rfl, sl30, rfl, hs30⟩
      have hpar := parens s (vars.map Vr.nv)
      have hsl1 := eval_len (s := s) (vs := (vars.map Vr.nv)) (by omega)
      refine l_q rfl rfl rfl (q_move rfl rfl) ?_
      refine l_q rfl rfl rfl (q_extract rfl rfl rfl) ?_
      refine l_q rfl rfl rfl (q_extract rfl rfl rfl) ?_
      refine l_q rfl rfl rfl (q_extract rfl rfl rfl) ?_
      refine l_q rfl rfl rfl (q_assign rfl rfl) ?_
      refine l_q rfl rfl rfl (q_assign rfl rfl) ?_
      refine l_q rfl rfl rfl (q_assign rfl rfl) ?_
      refine l_nil ?_
      refine n_then ?_
      refine t_seq ?_
      refine t_region ?_
      refine l_q rfl rfl rfl (q_assign rfl rfl) ?_
      refine l_nil ?_
      refine n_then ?_
      refine t_cutE (ι := Unit) (fun _ => True) (fun _ => [(11, .bool (s.all (blS.contains ·)))]) [(0, _), (1, _), (4, _), (14, _), (17, _), (5, _), (6, _), (7, _), (8, _), (9, _), (10, _)] (fun _ => J30) (fun _ => []) (sub_cons rfl (sub_cons rfl (sub_cons rfl (sub_cons rfl (sub_cons rfl (sub_cons rfl (sub_cons rfl (sub_cons rfl (sub_cons rfl (sub_cons rfl (sub_cons rfl sub_nil))))))))))) ?_ ?_
      · skip
        refine t_seq ?_
        refine t_region ?_
        refine l_q rfl rfl rfl (q_assign rfl rfl) ?_
        refine l_nil ?_
        refine n_then ?_
        refine t_block ?_
        refine t_loopE (ι := Nat) (fun zz => zz ≤ s.length) (fun zz => s.length - zz) (fun zz => [(11, .bool ((s.take zz).all (blS.contains ·))), (12, .int .i64 (zz : Int))]) [(0, _), (1, _), (4, _), (14, _), (17, _), (5, _), (6, _), (7, _), (8, _), (9, _), (10, _)] (fun zz => J30) (fun zz => []) 0 ?_ (sub_cons rfl (sub_cons rfl sub_nil)) (sub_cons rfl (sub_cons rfl (sub_cons rfl (sub_cons rfl (sub_cons rfl (sub_cons rfl (sub_cons rfl (sub_cons rfl (sub_cons rfl (sub_cons rfl (sub_cons rfl sub_nil))))))))))) (fun _ h => subC_st h) ?_
        · try dsimp only
          exact Nat.zero_le _
        rintro i hi
        try dsimp only at *
        refine t_seq ?_
        refine t_seq ?_
        refine t_region ?_
        refine l_q rfl rfl rfl (q_move rfl rfl) ?_
        refine l_q rfl rfl rfl (q_move rfl rfl) ?_
        refine l_q rfl rfl rfl (q_len_str rfl Tryd.underlying9 rfl) ?_
        refine l_q rfl rfl rfl (q_lss rfl rfl rfl) ?_
        refine l_nil ?_
        refine n_then ?_
        refine t_cond rfl (fun hc2 => ?_) (fun hc2 => ?_)
        · skip
          try simp at hc2
          refine t_skip ?_
          refine n_then ?_
          refine t_seq ?_
          refine t_block ?_
          have hil : i < s.length := by omega
          refine t_qreg ?_
          refine s_q rfl rfl rfl (q_move rfl rfl) ?_
          refine s_q rfl rfl rfl (q_move rfl rfl) ?_
          refine s_and2 16 1 41 58 57 _ _ rfl rfl rfl rfl rfl rfl (fun h58 => by
              try simp at h58
              have hil : i < s.length := by omega
              refine s_g rfl rfl rfl rfl rfl rfl (q_move rfl rfl) ?_
              refine s_g rfl rfl rfl rfl rfl rfl (q_move rfl rfl) ?_
              refine s_g rfl rfl rfl rfl rfl rfl ((by first | exact q_index_strN rfl Tryd.underlying9 rfl rfl (by omega) | exact q_index_str rfl Tryd.underlying9 rfl rfl (by omega))) ?_
              refine s_g rfl rfl rfl rfl rfl rfl (q_eql_u8c rfl rfl rfl rfl) ?_
              refine s_g rfl rfl rfl rfl rfl rfl (q_move rfl rfl) ?_
              refine s_or2 4 6 46 51 50 _ _ rfl rfl rfl rfl rfl rfl (fun h51 => by
                  try simp at h51
                  refine s_g rfl rfl rfl rfl rfl rfl (q_move rfl rfl) ?_
                  refine s_g rfl rfl rfl rfl rfl rfl (q_move rfl rfl) ?_
                  refine s_g rfl rfl rfl rfl rfl rfl ((by first | exact q_index_strN rfl Tryd.underlying9 rfl rfl (by omega) | exact q_index_str rfl Tryd.underlying9 rfl rfl (by omega))) ?_
                  refine s_g rfl rfl rfl rfl rfl rfl (q_eql_u8c rfl rfl rfl rfl) ?_
                  exact s_val rfl
                ) (wanted_g rfl rfl rfl rfl) rfl rfl rfl ?_
              refine s_g rfl rfl rfl rfl rfl rfl (q_move rfl rfl) ?_
              refine s_or2 4 12 52 57 56 _ _ rfl rfl rfl rfl rfl rfl (fun h57 => by
                  try simp at h57
                  refine s_g rfl rfl rfl rfl rfl rfl (q_move rfl rfl) ?_
                  refine s_g rfl rfl rfl rfl rfl rfl (q_move rfl rfl) ?_
                  refine s_g rfl rfl rfl rfl rfl rfl ((by first | exact q_index_strN rfl Tryd.underlying9 rfl rfl (by omega) | exact q_index_str rfl Tryd.underlying9 rfl rfl (by omega))) ?_
                  refine s_g rfl rfl rfl rfl rfl rfl (q_eql_u8c rfl rfl rfl rfl) ?_
                  exact s_val rfl
                ) (wanted_g rfl rfl rfl rfl) rfl rfl rfl ?_
              exact s_val rfl
            ) (wanted_n rfl) rfl rfl rfl ?_
          refine s_q rfl rfl rfl (q_assign rfl rfl) ?_
          refine s_done ?_
          refine n_block ?_
          refine n_then ?_
          refine t_region ?_
          refine l_q rfl rfl rfl (q_move rfl rfl) ?_
          refine l_q rfl rfl rfl (q_add64 rfl rfl rfl (by omega)) ?_
          refine l_q rfl rfl rfl (q_assign rfl rfl) ?_
          refine l_nil ?_
          refine n_roundE (i + 1) ?_ ?_ (sub_cons' rfl (by rw [take_nth 0 (show i < s.length by omega), List.all_append]; exact congrArg Value.bool (bl_step _ _)) (sub_cons rfl sub_nil)) (sub_cons rfl (sub_cons rfl (sub_cons rfl (sub_cons rfl (sub_cons rfl (sub_cons rfl (sub_cons rfl (sub_cons rfl (sub_cons rfl (sub_cons rfl (sub_cons rfl sub_nil))))))))))) (fun _ h => by try dsimp only; exact subC_st h)
          · try dsimp only
            omega
          · try dsimp only
            show s.length - (i + 1) < s.length - i
            omega
        · skip
          try simp at hc2
          refine t_exit ?_
          refine n_exit_then ?_
          refine n_exit_then ?_
          refine n_exit_block ?_
          refine n_cut (()) ?_ (sub_cons' rfl (by rw [show i = s.length by omega, List.take_length]) (sub_nil)) (sub_cons rfl (sub_cons rfl (sub_cons rfl (sub_cons rfl (sub_cons rfl (sub_cons rfl (sub_cons rfl (sub_cons rfl (sub_cons rfl (sub_cons rfl (sub_cons rfl sub_nil))))))))))) (fun _ h => by try dsimp only; exact subC_st h)
          · trivial
      rintro _ _
      refine t_seq ?_
      refine t_seq ?_
      refine t_region ?_
      refine l_q rfl rfl rfl (q_move rfl rfl) ?_
      refine l_nil ?_
      refine n_then ?_
      refine t_cond rfl (fun hc3 => ?_) (fun hc3 => ?_)
      · skip
        obtain ⟨p1, p2, p3⟩ := hpar.1 hc3
        refine t_seq ?_
        refine t_qreg ?_
        refine s_q rfl rfl rfl (q_move rfl rfl) ?_
        refine s_q rfl rfl rfl (q_eql rfl rfl rfl) ?_
        refine s_q rfl rfl rfl (q_move rfl rfl) ?_
        refine s_and2 2 2 62 65 64 _ _ rfl rfl rfl rfl rfl rfl (fun h65 => by
            try simp at h65
            refine s_g rfl rfl rfl rfl rfl rfl (q_move rfl rfl) ?_
            refine s_g rfl rfl rfl rfl rfl rfl (q_eql rfl rfl rfl) ?_
            exact s_val rfl
          ) (wanted_n rfl) rfl rfl rfl ?_
        refine s_q rfl rfl rfl (q_move rfl rfl) ?_
        refine s_and2 2 6 66 69 68 _ _ rfl rfl rfl rfl rfl rfl (fun h69 => by
            try simp at h69
            refine s_g rfl rfl rfl rfl rfl rfl (q_move rfl rfl) ?_
            refine s_g rfl rfl rfl rfl rfl rfl (q_eql rfl rfl rfl) ?_
            exact s_val rfl
          ) (wanted_n rfl) rfl rfl rfl ?_
        refine s_q rfl rfl rfl (q_assign rfl rfl) ?_
        refine s_done ?_
        refine n_then ?_
        refine t_ret ?_
        refine n_ret_then ?_
        refine n_ret1 rfl rfl (fun w' hw => ?_)
        -- leaf 1
        refine ⟨?_, (hw.less (hJ21.trans hJ30)).below⟩
        rw [p1, p2, p3]; rfl
      · skip
        obtain ⟨p1, p2, p3⟩ := hpar.2 hc3
        refine t_skip ?_
        refine n_then ?_
        refine t_seq ?_
        refine t_seq ?_
        refine t_qreg ?_
        refine s_q rfl rfl rfl (q_move rfl rfl) ?_
        refine s_q rfl rfl rfl (q_eql rfl rfl rfl) ?_
        refine s_q rfl rfl rfl (q_move rfl rfl) ?_
        refine s_and2 2 2 72 75 74 _ _ rfl rfl rfl rfl rfl rfl (fun h75 => by
            try simp at h75
            refine s_g rfl rfl rfl rfl rfl rfl (q_move rfl rfl) ?_
            refine s_g rfl rfl rfl rfl rfl rfl (q_eql rfl rfl rfl) ?_
            exact s_val rfl
          ) (wanted_n rfl) rfl rfl rfl ?_
        refine s_done ?_
        refine n_then ?_
        refine t_cond rfl (fun hc4 => ?_) (fun hc4 => ?_)
        · skip
          refine t_seq ?_
          refine t_qreg ?_
          refine s_q rfl rfl rfl (q_move rfl rfl) ?_
          refine s_q rfl rfl rfl (q_move rfl rfl) ?_
          refine s_q rfl rfl rfl (q_eql rfl rfl rfl) ?_
          refine s_q rfl rfl rfl (q_move rfl rfl) ?_
          refine s_and2 3 3 79 83 82 _ _ rfl rfl rfl rfl rfl rfl (fun h83 => by
              try simp at h83
              refine s_g rfl rfl rfl rfl rfl rfl (q_move rfl rfl) ?_
              refine s_g rfl rfl rfl rfl rfl rfl (q_move rfl rfl) ?_
              refine s_g rfl rfl rfl rfl rfl rfl (quiet_call rfl rfl rfl Tryd.func9 (by kernel_rfl) rfl ((fun w hw => same_pure sl21 sl30 (evalP s (vars.map Vr.nv)).2.1 (evalP ([40] ++ s ++ [41]) (vars.map Vr.nv)).2.1 w (by omega) ((hs21.mono hJ30).mono hw.le) (hs30.mono hw.le)))) ?_
              exact s_val rfl
            ) (wanted_n rfl) rfl rfl rfl ?_
          refine s_q rfl rfl rfl (q_assign rfl rfl) ?_
          refine s_done ?_
          refine n_then ?_
          refine t_ret ?_
          refine n_ret_then ?_
          refine n_ret1 rfl rfl (fun w' hw => ?_)
          -- leaf 2
          refine ⟨?_, (hw.less (hJ21.trans hJ30)).below⟩
          have h4 := pn_on hc4
          rw [p1 h4.1 h4.2]
          simp
        · skip
          refine t_skip ?_
          refine n_then ?_
          refine t_seq ?_
          refine t_seq ?_
          refine t_region ?_
          refine l_q rfl rfl rfl (q_move rfl rfl) ?_
          refine l_q rfl rfl rfl (q_eql rfl rfl rfl) ?_
          refine l_nil ?_
          refine n_then ?_
          refine t_cond rfl (fun hc5 => ?_) (fun hc5 => ?_)
          · skip
            refine t_seq ?_
            refine t_region ?_
            refine l_q rfl rfl rfl (q_move rfl rfl) ?_
            refine l_q rfl rfl rfl (q_eql rfl rfl rfl) ?_
            refine l_q rfl rfl rfl (q_assign rfl rfl) ?_
            refine l_nil ?_
            refine n_then ?_
            refine t_ret ?_
            refine n_ret_then ?_
            refine n_ret1 rfl rfl (fun w' hw => ?_)
            -- leaf 3
            refine ⟨?_, (hw.less (hJ21.trans hJ30)).below⟩
            have h5 : (evalP s (vars.map Vr.nv)).2.2 = 0 := by have := of_decide_eq_true hc5; omega
            rw [p2 h5 (pn_off hc4 h5)]; rfl
          · skip
            refine t_skip ?_
            refine n_then ?_
            refine t_seq ?_
            refine t_qreg ?_
            refine s_q rfl rfl rfl (q_move rfl rfl) ?_
            refine s_q rfl rfl rfl (q_eql rfl rfl rfl) ?_
            refine s_q rfl rfl rfl (q_move rfl rfl) ?_
            refine s_and2 3 2 90 94 93 _ _ rfl rfl rfl rfl rfl rfl (fun h94 => by
                try simp at h94
                refine s_g rfl rfl rfl rfl rfl rfl (q_move rfl rfl) ?_
                refine s_g rfl rfl rfl rfl rfl rfl ((by first | exact q_lenV rfl Tryd.underlying24 rfl | exact q_len rfl Tryd.underlying24 rfl (Sl.lenOf (hs21.mono hJ30) (List.length_map _)))) ?_
                refine s_g rfl rfl rfl rfl rfl rfl (q_eql rfl rfl rfl) ?_
                exact s_val rfl
              ) (wanted_n rfl) rfl rfl rfl ?_
            refine s_q rfl rfl rfl (q_assign rfl rfl) ?_
            refine s_done ?_
            refine n_then ?_
            refine t_ret ?_
            refine n_ret1 rfl rfl (fun w' hw => ?_)
            -- leaf 4
            refine ⟨?_, (hw.less (hJ21.trans hJ30)).below⟩
            have h5 : (evalP s (vars.map Vr.nv)).2.2 ≠ 0 := by have := of_decide_eq_false hc5; omega
            rw [(p3 h5).1, (p3 h5).2]; rfl
end Go.Tri
