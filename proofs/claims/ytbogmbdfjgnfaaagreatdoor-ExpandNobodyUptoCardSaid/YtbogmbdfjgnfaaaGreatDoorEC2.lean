/-
  A list of variables: one is put.
-/
import Derived.Test.YtbogmbdfjgnfaaaGreatDoorEC1
import Derived.Test.YtbogmbdfjgnfaaaGreatDoorTriB23
namespace Go.Tri
open Go.Proofs Go.RowKit
theorem okNr (s : List UInt8) (i : Nat) : (!letterB (nth s i 0) && (decide ((i : Int) = 0) || !digitB' (nth s i 0))) = !okN s i := by
  unfold okN
  by_cases h1 : (i : Int) = 0 <;> cases letterB (nth s i 0) <;> cases digitB' (nth s i 0) <;> simp [h1] <;> omega
theorem sl_cut0 {I : Look} {l h : Nat} : Sl I 5 (cutV 5 0 0 nilV) (([] : List Vr).map vrC) := sl_nil (fun _ h => by cases h)
def svC (s : List UInt8) : List Value := [str s]
theorem svC_ones (s : List UInt8) : ∀ u ∈ svC s, u.oneCell' = true := fun u hu => by
  rw [svC, List.mem_singleton] at hu; subst hu; rfl
theorem sl_cut1 {I : Look} : Sl I 1 nilV (([] : List (List UInt8)).map svC) := sl_nil (fun _ h => by cases h)
set_option maxRecDepth 10000 in
theorem rletter_pure (c : UInt8) (w : World) : Pure Tryz.prog 70 [u8 c] w (.bool (letterB c)) := by
  refine enter Tryz.func70 rfl Tryz.ntmps70 rfl (St.start w (look w) (Le.refl _)) ?_
  refine t_seq ?_
  refine t_region ?_
  refine l_q rfl rfl rfl (q_assign rfl rfl) ?_
  refine l_nil ?_
  refine n_then ?_
  refine t_seq ?_
  refine t_qreg ?_
  refine s_q rfl rfl rfl (q_move rfl rfl) ?_
  refine s_q rfl rfl rfl (q_geq rfl rfl rfl) ?_
  refine s_q rfl rfl rfl (q_move rfl rfl) ?_
  refine s_and2 2 2 5 8 7 _ _ rfl rfl rfl rfl rfl rfl (fun h8 => by
      try simp at h8
      refine s_g rfl rfl rfl rfl rfl rfl (q_move rfl rfl) ?_
      refine s_g rfl rfl rfl rfl rfl rfl (q_leq rfl rfl rfl) ?_
      exact s_val rfl
    ) (wanted_n rfl) rfl rfl rfl ?_
  refine s_q rfl rfl rfl (q_move rfl rfl) ?_
  refine s_or2 6 6 9 16 15 _ _ rfl rfl rfl rfl rfl rfl (fun h16 => by
      try simp at h16
      refine s_g rfl rfl rfl rfl rfl rfl (q_move rfl rfl) ?_
      refine s_g rfl rfl rfl rfl rfl rfl (q_geq rfl rfl rfl) ?_
      refine s_g rfl rfl rfl rfl rfl rfl (q_move rfl rfl) ?_
      refine s_and2 2 9 12 15 14 _ _ rfl rfl rfl rfl rfl rfl (fun h15 => by
          try simp at h15
          refine s_g rfl rfl rfl rfl rfl rfl (q_move rfl rfl) ?_
          refine s_g rfl rfl rfl rfl rfl rfl (q_leq rfl rfl rfl) ?_
          exact s_val rfl
        ) (wanted_g rfl rfl rfl rfl) rfl rfl rfl ?_
      exact s_val rfl
    ) (wanted_n rfl) rfl rfl rfl ?_
  refine s_q rfl rfl rfl (q_move rfl rfl) ?_
  refine s_or2 2 14 17 20 19 _ _ rfl rfl rfl rfl rfl rfl (fun h20 => by
      try simp at h20
      refine s_g rfl rfl rfl rfl rfl rfl (q_move rfl rfl) ?_
      refine s_g rfl rfl rfl rfl rfl rfl (q_eql_u8c rfl rfl rfl rfl) ?_
      exact s_val rfl
    ) (wanted_n rfl) rfl rfl rfl ?_
  refine s_q rfl rfl rfl (q_assign rfl rfl) ?_
  refine s_done ?_
  refine n_then ?_
  refine t_ret ?_
  refine n_ret1 rfl rfl (fun w' hw => ?_)
  -- leaf 0
  refine ⟨?_, hw.below⟩
  rfl
set_option maxRecDepth 10000 in
theorem rdigit_pure (c : UInt8) (w : World) : Pure Tryz.prog 71 [u8 c] w (.bool (digitB' c)) := by
  refine enter Tryz.func71 rfl Tryz.ntmps71 rfl (St.start w (look w) (Le.refl _)) ?_
  refine t_seq ?_
  refine t_region ?_
  refine l_q rfl rfl rfl (q_assign rfl rfl) ?_
  refine l_nil ?_
  refine n_then ?_
  refine t_seq ?_
  refine t_qreg ?_
  refine s_q rfl rfl rfl (q_move rfl rfl) ?_
  refine s_q rfl rfl rfl (q_geq rfl rfl rfl) ?_
  refine s_q rfl rfl rfl (q_move rfl rfl) ?_
  refine s_and2 2 2 5 8 7 _ _ rfl rfl rfl rfl rfl rfl (fun h8 => by
      try simp at h8
      refine s_g rfl rfl rfl rfl rfl rfl (q_move rfl rfl) ?_
      refine s_g rfl rfl rfl rfl rfl rfl (q_leq rfl rfl rfl) ?_
      exact s_val rfl
    ) (wanted_n rfl) rfl rfl rfl ?_
  refine s_q rfl rfl rfl (q_assign rfl rfl) ?_
  refine s_done ?_
  refine n_then ?_
  refine t_ret ?_
  refine n_ret1 rfl rfl (fun w' hw => ?_)
  -- leaf 0
  refine ⟨?_, hw.below⟩
  rfl
set_option maxRecDepth 10000 in
theorem rname_pure (s : List UInt8) (w : World) (hs : s.length ≤ 4611686018427387904) : Pure Tryz.prog 46 [str s] w (.bool (nameB s)) := by
  refine enter Tryz.func46 rfl Tryz.ntmps46 rfl (St.start w (look w) (Le.refl _)) ?_
  refine t_seq ?_
  refine t_region ?_
  refine l_q rfl rfl rfl (q_assign rfl rfl) ?_
  refine l_nil ?_
  refine n_then ?_
  refine t_seq ?_
  refine t_seq ?_
  refine t_region ?_
  refine l_q rfl rfl rfl (q_assign rfl rfl) ?_
  refine l_nil ?_
  refine n_then ?_
  refine t_block ?_
  refine t_loopE (ι := Nat) (fun i => i ≤ s.length ∧ ∀ k, k < i → okN s k = true) (fun i => s.length - i) (fun i => [(3, .int .i64 (i : Int))]) [(0, _)] (fun i => look w) (fun i => []) 0 ?_ (sub_cons rfl sub_nil) (sub_cons rfl sub_nil) (fun _ h => subC_st h) ?_
  · try dsimp only
    exact ⟨Nat.zero_le _, fun k hk => absurd hk (Nat.not_lt_zero _)⟩
  rintro i ⟨hi, hok⟩
  refine t_seq ?_
  refine t_seq ?_
  refine t_region ?_
  refine l_q rfl rfl rfl (q_move rfl rfl) ?_
  refine l_q rfl rfl rfl (q_move rfl rfl) ?_
  refine l_q rfl rfl rfl (q_len_str rfl Tryz.underlying9 rfl) ?_
  refine l_q rfl rfl rfl (q_lss rfl rfl rfl) ?_
  refine l_nil ?_
  refine n_then ?_
  refine t_cond rfl (fun hc0 => ?_) (fun hc0 => ?_)
  · skip
    try simp at hc0
    refine t_skip ?_
    refine n_then ?_
    refine t_seq ?_
    refine t_block ?_
    refine t_seq ?_
    refine t_qreg ?_
    refine s_q rfl rfl rfl (q_move rfl rfl) ?_
    refine s_q rfl rfl rfl (q_move rfl rfl) ?_
    refine s_q rfl rfl rfl ((by first | exact q_index_strN rfl Tryz.underlying9 rfl rfl (by omega) | exact q_index_str rfl Tryz.underlying9 rfl rfl (by omega))) ?_
    refine s_q rfl rfl rfl (quiet_call rfl rfl rfl Tryz.func70 (by kernel_rfl) rfl ((fun w _ => rletter_pure _ w))) ?_
    refine s_q rfl rfl rfl (q_not rfl rfl) ?_
    refine s_q rfl rfl rfl (q_move rfl rfl) ?_
    refine s_and2 9 5 15 25 24 _ _ rfl rfl rfl rfl rfl rfl (fun h25 => by
        try simp at h25
        refine s_g rfl rfl rfl rfl rfl rfl (q_move rfl rfl) ?_
        refine s_g rfl rfl rfl rfl rfl rfl (q_eql rfl rfl rfl) ?_
        refine s_g rfl rfl rfl rfl rfl rfl (q_move rfl rfl) ?_
        refine s_or2 5 8 18 24 23 _ _ rfl rfl rfl rfl rfl rfl (fun h24 => by
            try simp at h24
            refine s_g rfl rfl rfl rfl rfl rfl (q_move rfl rfl) ?_
            refine s_g rfl rfl rfl rfl rfl rfl (q_move rfl rfl) ?_
            refine s_g rfl rfl rfl rfl rfl rfl ((by first | exact q_index_strN rfl Tryz.underlying9 rfl rfl (by omega) | exact q_index_str rfl Tryz.underlying9 rfl rfl (by omega))) ?_
            refine s_g rfl rfl rfl rfl rfl rfl (quiet_call rfl rfl rfl Tryz.func71 (by kernel_rfl) rfl ((fun w _ => rdigit_pure _ w))) ?_
            refine s_g rfl rfl rfl rfl rfl rfl (q_not rfl rfl) ?_
            exact s_val rfl
          ) (wanted_g rfl rfl rfl rfl) rfl rfl rfl ?_
        exact s_val rfl
      ) (wanted_n rfl) rfl rfl rfl ?_
    refine s_done ?_
    refine n_then ?_
    refine t_cond rfl (fun hc1 => ?_) (fun hc1 => ?_)
    · skip
      have hokk : okN s i = false := by have := okNr s i; rw [show _ = true from hc1] at this; simpa using this
      refine t_seq ?_
      refine t_region ?_
      refine l_q rfl rfl rfl (q_assign rfl rfl) ?_
      refine l_nil ?_
      refine n_then ?_
      refine t_ret ?_
      refine n_ret_block ?_
      refine n_ret_then ?_
      refine n_ret_then ?_
      refine n_ret_block ?_
      refine n_ret_then ?_
      refine n_ret1 rfl rfl (fun w' hw => ?_)
      -- leaf 0
      refine ⟨?_, hw.below⟩
      rw [nameB_false (by omega) hokk]
    · skip
      have hokk : okN s i = true := by have := okNr s i; rw [show _ = false from hc1] at this; simpa using this
      refine t_skip ?_
      refine n_block ?_
      refine n_then ?_
      refine t_region ?_
      refine l_q rfl rfl rfl (q_move rfl rfl) ?_
      refine l_q rfl rfl rfl (q_add64 rfl rfl rfl (by omega)) ?_
      refine l_q rfl rfl rfl (q_assign rfl rfl) ?_
      refine l_nil ?_
      refine n_roundE (i + 1) ?_ ?_ (sub_cons rfl sub_nil) (sub_cons rfl sub_nil) (fun _ h => by try dsimp only; exact subC_st h)
      · try dsimp only
        refine ⟨by omega, fun k hk => ?_⟩
        rcases Nat.lt_succ_iff_lt_or_eq.1 hk with h | rfl
        · exact hok k h
        · exact hokk
      · try dsimp only
        omega
  · skip
    try simp at hc0
    refine t_exit ?_
    refine n_exit_then ?_
    refine n_exit_then ?_
    refine n_exit_block ?_
    refine n_then ?_
    refine t_seq ?_
    refine t_region ?_
    refine l_q rfl rfl rfl (q_move rfl rfl) ?_
    refine l_q rfl rfl rfl (q_neq_str rfl rfl rfl) ?_
    refine l_q rfl rfl rfl (q_assign rfl rfl) ?_
    refine l_nil ?_
    refine n_then ?_
    refine t_ret ?_
    refine n_ret1 rfl rfl (fun w' hw => ?_)
    -- leaf 1
    refine ⟨?_, hw.below⟩
    rw [nameB_all fun k hk => hok k (by omega)]
set_option maxRecDepth 10000 in
theorem put_nil (b : Nat) (x : Vr) (av : Value) (hav : One av) (I : Look) (F : List HA) (w0 w : World) (hw0 : St w0 I (row b 65 [nilV, av] :: F) w) : Calls Tryz.prog 48 [.pointer (some ⟨b, 0, none⟩), .agg (vrC x).toArray].toArray w (fun e w' => ∃ v, e = .returned v ∧ ∃ I' H', (Le I I' ∧ v = .tuple #[] ∧ ∃ lv, H' = row b 65 [lv, av] :: F ∧ Sl I' 5 lv [vrC x]) ∧ St w I' H' w') := by
  refine enter Tryz.func48 rfl Tryz.ntmps48 rfl (hw0.self) ?_
  refine t_seq ?_
  refine t_region ?_
  refine l_e rfl rfl rfl (e_box rfl rfl rfl) ?_
  rintro _ _ _ ⟨b3, rfl, rfl, rfl⟩
  refine l_nil ?_
  refine n_then ?_
  refine t_seq ?_
  refine t_seq ?_
  refine t_region ?_
  refine l_q rfl rfl rfl (q_move rfl rfl) ?_
  refine l_q rfl rfl rfl (q_fieldAddr rfl Tryz.underlying28 rfl rfl ti9 rfl rfl) ?_
  refine l_q rfl rfl rfl (q_load_row rfl Tryz.underlying9 rfl rfl (by rfl)) ?_
  refine l_q rfl rfl rfl (quiet_call rfl rfl rfl Tryz.func47 (by kernel_rfl) rfl ((fun w hw => find_pure b [] nilV av w (by decide) (rowed_of hw) (sl_nil (fun _ h => by cases h)) x.name (-1) (findV_nil _)))) ?_
  refine l_q rfl rfl rfl (q_assign rfl rfl) ?_
  refine l_nil ?_
  refine n_then ?_
  refine t_seq ?_
  refine t_region ?_
  refine l_q rfl rfl rfl (q_move rfl rfl) ?_
  refine l_q rfl rfl rfl (q_geq rfl rfl rfl) ?_
  refine l_nil ?_
  refine n_then ?_
  refine t_cond rfl (fun hc0 => ?_) (fun hc0 => ?_)
  · skip
    exact absurd hc0 (by decide)
  · skip
    refine t_skip ?_
    refine n_then ?_
    refine t_seq ?_
    refine t_region ?_
    refine l_q rfl rfl rfl (q_assign rfl rfl) ?_
    refine l_nil ?_
    refine n_then ?_
    refine t_seq ?_
    refine t_block ?_
    refine t_loopE (ι := Unit) (fun _ => True) (fun _ => 0) (fun _ => [(6, .int .i64 0)]) [(0, _), (1, _), (3, _), (4, _), (12, _)] (fun _ => I) (fun _ => (row b3 28 (vrC x) :: row b 65 [nilV, av] :: F)) () ?_ (sub_cons rfl sub_nil) (sub_cons rfl (sub_cons rfl (sub_cons rfl (sub_cons rfl (sub_cons rfl sub_nil))))) (fun _ h => subC_st h) ?_
    · try dsimp only
      skip
    rintro _ _
    refine t_seq ?_
    refine t_seq ?_
    refine t_qdraw mo (by kernel_rfl) (fun _ _ _ _ _ h => h) ?_
    refine s_q rfl rfl rfl (q_move rfl rfl) ?_
    refine s_q rfl rfl rfl (q_move rfl rfl) ?_
    refine s_q rfl rfl rfl (q_nilCheck rfl rfl) ?_
    refine s_q rfl rfl rfl (q_fieldAddr rfl Tryz.underlying65 rfl rfl ti23 rfl rfl) ?_
    refine s_q rfl rfl rfl (q_load_row rfl Tryz.underlying23 rfl rfl (by rfl)) ?_
    refine s_q rfl rfl rfl ((by first | exact q_lenV rfl Tryz.underlying23 rfl | exact q_len rfl Tryz.underlying23 rfl (⟨none, 0, rfl⟩))) ?_
    refine s_q rfl rfl rfl (q_lss rfl rfl rfl) ?_
    refine s_q rfl rfl rfl (q_move rfl rfl) ?_
    refine s_and2 11 7 34 46 45 _ false rfl rfl rfl rfl rfl rfl (fun h46 => by
        cases h46
      ) (wanted_n rfl) rfl rfl rfl ?_
    refine s_done ?_
    refine n_then ?_
    refine t_cond rfl (fun hc1 => ?_) (fun hc1 => ?_)
    · skip
      cases hc1
    · skip
      refine t_exit ?_
      refine n_exit_then ?_
      refine n_exit_then ?_
      refine n_exit_block ?_
      refine n_then ?_
      refine t_draw [1, 8, 10, 11, 18, 21] [21] [row b 65 [nilV, av], row b3 28 (vrC x)] mo (by kernel_rfl) (fun _ _ _ _ _ h => h) ?_
      refine r_qf 0 (by kernel_rfl) rfl rfl rfl rfl (fun _ => q_move rfl rfl) ?_
      refine r_qf 2 (by kernel_rfl) rfl rfl rfl rfl (fun _ => q_move rfl rfl) ?_
      refine r_qf 3 (by kernel_rfl) rfl rfl rfl rfl (fun _ => q_nilCheck rfl rfl) ?_
      refine r_qf 4 (by kernel_rfl) rfl rfl rfl rfl (fun _ => q_fieldAddr rfl Tryz.underlying65 rfl rfl ti23 rfl rfl) ?_
      refine r_q0 5 (by kernel_rfl) rfl (Le.refl _) rfl rfl rfl (fun _ hI => q_load_row rfl Tryz.underlying23 rfl rfl (by rfl)) ?_
      refine r_qf 6 (by kernel_rfl) rfl rfl rfl rfl (fun _ => q_move rfl rfl) ?_
      refine r_qf 7 (by kernel_rfl) rfl rfl rfl rfl (fun _ => (by first | exact q_slice_to rfl Tryz.underlying23 ti28 rfl rfl (⟨none, 0, rfl, Nat.le_refl _⟩) (by omega))) ?_
      refine r_q0 9 (by kernel_rfl) rfl (Le.refl _) rfl rfl rfl (fun _ hI => q_load_rowA rfl Tryz.underlying28 ti28 rfl rfl rfl) ?_
      refine r_qf 12 (by kernel_rfl) rfl rfl rfl rfl (fun _ => q_move rfl rfl) ?_
      refine r_qf 13 (by kernel_rfl) rfl rfl rfl rfl (fun _ => q_nilCheck rfl rfl) ?_
      refine r_qf 14 (by kernel_rfl) rfl rfl rfl rfl (fun _ => q_fieldAddr rfl Tryz.underlying65 rfl rfl ti23 rfl rfl) ?_
      refine r_q0 15 (by kernel_rfl) rfl (Le.refl _) rfl rfl rfl (fun _ hI => q_load_row rfl Tryz.underlying23 rfl rfl (by rfl)) ?_
      refine r_qf 16 (by kernel_rfl) rfl rfl rfl rfl (fun _ => q_move rfl rfl) ?_
      refine r_qf 17 (by kernel_rfl) rfl rfl rfl rfl (fun _ => (by first | exact q_slice_from rfl Tryz.underlying23 ti28 rfl rfl (⟨none, 0, rfl⟩) (by omega))) ?_
      refine r_two 1 10 (by kernel_rfl) (by kernel_rfl) ?_ ?_
      · skip
        refine x_e 1 rfl rfl (Le.refl _) rfl rfl rfl (e_buildSlice0 rfl Tryz.underlying23 ti28) ?_
        rintro v50 _ _ ⟨⟨b50, hb50⟩, rfl, rfl⟩
        refine ⟨Le.refl _, .inr SubC.sub, ?_⟩
        refine r_two 8 10 (by kernel_rfl) (by kernel_rfl) ?_ ?_
        · skip
          refine x_e 8 rfl rfl (Le.refl _) rfl rfl rfl (e_appendSl (f := vrC) (l := []) (ls := []) rfl Tryz.underlying23 ti28 rfl rfl rfl rfl (sl_cut0 (l := 0) (h := 0)) rfl (fun _ => rfl) vrC_ones (by decide) (by decide)) ?_
          rintro v57 _ _ ⟨rfl, rfl⟩
          refine ⟨Le.refl _, .inr SubC.sub, ?_⟩
          refine r_e 10 (by kernel_rfl) (by kernel_rfl) rfl (Le.refl _) rfl rfl rfl (e_buildSlice1 rfl Tryz.underlying23 ti28 rfl rfl rfl (by first | exact One.cells (by assumption) | rfl) rfl) ?_
          rintro _ _ _ ⟨b59, rfl, rfl, rfl⟩
          refine ⟨Le.refl _, .inr SubC.sub, ?_⟩
          refine r_e 11 (by kernel_rfl) (by kernel_rfl) rfl (Le.refl _) rfl rfl rfl (e_appendT (f := vrC) (l := []) (c := x) rfl Tryz.underlying23 ti28 rfl rfl rfl rfl rfl rfl rfl (vrC_ones x) (by decide) (by decide)) ?_
          rintro v60 _ _ ⟨rfl, rfl⟩
          refine ⟨Le.refl _, .inr SubC.sub, ?_⟩
          refine r_e 18 (by kernel_rfl) (by kernel_rfl) rfl (Le.refl _) rfl rfl rfl (e_appendSl (f := vrC) (l := [x]) (ls := []) rfl Tryz.underlying23 ti28 rfl rfl rfl rfl (sl_cut0 (l := 0) (h := 0)) rfl (fun _ => rfl) vrC_ones (by show 1 ≤ maxLen; decide) (by show 1 * 40 ≤ _; decide)) ?_
          rintro v67 _ _ ⟨rfl, rfl⟩
          refine ⟨Le.refl _, .inr SubC.sub, ?_⟩
          refine r_len v67 (fun hsh67 hone67 => ?_)
          refine r_qf 19 (by kernel_rfl) rfl rfl rfl rfl (fun _ => q_nilCheck rfl rfl) ?_
          refine r_qf 20 (by kernel_rfl) rfl rfl rfl rfl (fun _ => q_fieldAddr rfl Tryz.underlying65 rfl rfl ti23 rfl rfl) ?_
          refine r_e0 21 (by kernel_rfl) (by kernel_rfl) rfl (Le.refl _) rfl rfl (e_storeS rfl ti23 rfl rfl (by first | exact ⟨rfl, rfl⟩ | assumption) rfl (by first | (simp only [List.set_cons_succ, List.set_cons_zero]; rfl) | rfl)) ?_
          rintro _ _ _ ⟨rfl, rfl⟩
          refine ⟨Le.refl _, .inl rfl, ?_⟩
          refine r_heap (H' := row b 65 [v67, av] :: _) ?_ (fun _ h => h)
          refine r_end (by kernel_rfl) ?_
          refine n_end0 rfl (fun w' hw => ?_)
          -- leaf 0
          obtain ⟨J, hJ, hw2, hsl⟩ := st_freeze (xss := [vrC x]) (picks_st2 (tvec 28 5 vrC v67 ([x] ++ [])) (row b 65 [v67, av]) hw) rfl (fun c hc => by rw [List.mem_singleton] at hc; subst hc; rfl)
          exact ⟨_, rfl, J, _, ⟨hJ, rfl, v67, rfl, hsl⟩, subC_st hw2⟩
        · skip
          refine x_e 10 rfl rfl (Le.refl _) rfl rfl rfl (e_buildSlice1 rfl Tryz.underlying23 ti28 rfl rfl rfl (by first | exact One.cells (by assumption) | rfl) rfl) ?_
          rintro _ _ _ ⟨b59, rfl, rfl, rfl⟩
          refine ⟨Le.refl _, .inr SubC.sub, ?_⟩
          refine r_e 8 (by kernel_rfl) (by kernel_rfl) rfl (Le.refl _) rfl rfl rfl (e_appendSl (f := vrC) (l := []) (ls := []) rfl Tryz.underlying23 ti28 rfl rfl rfl rfl (sl_cut0 (l := 0) (h := 0)) rfl (fun _ => rfl) vrC_ones (by decide) (by decide)) ?_
          rintro v57 _ _ ⟨rfl, rfl⟩
          refine ⟨Le.refl _, .inr SubC.sub, ?_⟩
          refine r_e 11 (by kernel_rfl) (by kernel_rfl) rfl (Le.refl _) rfl rfl rfl (e_appendT (f := vrC) (l := []) (c := x) rfl Tryz.underlying23 ti28 rfl rfl rfl rfl rfl rfl rfl (vrC_ones x) (by decide) (by decide)) ?_
          rintro v60 _ _ ⟨rfl, rfl⟩
          refine ⟨Le.refl _, .inr SubC.sub, ?_⟩
          refine r_e 18 (by kernel_rfl) (by kernel_rfl) rfl (Le.refl _) rfl rfl rfl (e_appendSl (f := vrC) (l := [x]) (ls := []) rfl Tryz.underlying23 ti28 rfl rfl rfl rfl (sl_cut0 (l := 0) (h := 0)) rfl (fun _ => rfl) vrC_ones (by show 1 ≤ maxLen; decide) (by show 1 * 40 ≤ _; decide)) ?_
          rintro v67 _ _ ⟨rfl, rfl⟩
          refine ⟨Le.refl _, .inr SubC.sub, ?_⟩
          refine r_len v67 (fun hsh67 hone67 => ?_)
          refine r_qf 19 (by kernel_rfl) rfl rfl rfl rfl (fun _ => q_nilCheck rfl rfl) ?_
          refine r_qf 20 (by kernel_rfl) rfl rfl rfl rfl (fun _ => q_fieldAddr rfl Tryz.underlying65 rfl rfl ti23 rfl rfl) ?_
          refine r_e0 21 (by kernel_rfl) (by kernel_rfl) rfl (Le.refl _) rfl rfl (e_storeS rfl ti23 rfl rfl (by first | exact ⟨rfl, rfl⟩ | assumption) rfl (by first | (simp only [List.set_cons_succ, List.set_cons_zero]; rfl) | rfl)) ?_
          rintro _ _ _ ⟨rfl, rfl⟩
          refine ⟨Le.refl _, .inl rfl, ?_⟩
          refine r_heap (H' := row b 65 [v67, av] :: _) ?_ (fun _ h => h)
          refine r_end (by kernel_rfl) ?_
          refine n_end0 rfl (fun w' hw => ?_)
          -- leaf 1
          obtain ⟨J, hJ, hw2, hsl⟩ := st_freeze (xss := [vrC x]) (picks_st2 (tvec 28 5 vrC v67 ([x] ++ [])) (row b 65 [v67, av]) hw) rfl (fun c hc => by rw [List.mem_singleton] at hc; subst hc; rfl)
          exact ⟨_, rfl, J, _, ⟨hJ, rfl, v67, rfl, hsl⟩, subC_st hw2⟩
      · skip
        refine x_e 10 rfl rfl (Le.refl _) rfl rfl rfl (e_buildSlice1 rfl Tryz.underlying23 ti28 rfl rfl rfl (by first | exact One.cells (by assumption) | rfl) rfl) ?_
        rintro _ _ _ ⟨b59, rfl, rfl, rfl⟩
        refine ⟨Le.refl _, .inr SubC.sub, ?_⟩
        refine r_e 1 (by kernel_rfl) (by kernel_rfl) rfl (Le.refl _) rfl rfl rfl (e_buildSlice0 rfl Tryz.underlying23 ti28) ?_
        rintro v50 _ _ ⟨⟨b50, hb50⟩, rfl, rfl⟩
        refine ⟨Le.refl _, .inr SubC.sub, ?_⟩
        refine r_e 8 (by kernel_rfl) (by kernel_rfl) rfl (Le.refl _) rfl rfl rfl (e_appendSl (f := vrC) (l := []) (ls := []) rfl Tryz.underlying23 ti28 rfl rfl rfl rfl (sl_cut0 (l := 0) (h := 0)) rfl (fun _ => rfl) vrC_ones (by decide) (by decide)) ?_
        rintro v57 _ _ ⟨rfl, rfl⟩
        refine ⟨Le.refl _, .inr SubC.sub, ?_⟩
        refine r_e 11 (by kernel_rfl) (by kernel_rfl) rfl (Le.refl _) rfl rfl rfl (e_appendT (f := vrC) (l := []) (c := x) rfl Tryz.underlying23 ti28 rfl rfl rfl rfl rfl rfl rfl (vrC_ones x) (by decide) (by decide)) ?_
        rintro v60 _ _ ⟨rfl, rfl⟩
        refine ⟨Le.refl _, .inr SubC.sub, ?_⟩
        refine r_e 18 (by kernel_rfl) (by kernel_rfl) rfl (Le.refl _) rfl rfl rfl (e_appendSl (f := vrC) (l := [x]) (ls := []) rfl Tryz.underlying23 ti28 rfl rfl rfl rfl (sl_cut0 (l := 0) (h := 0)) rfl (fun _ => rfl) vrC_ones (by show 1 ≤ maxLen; decide) (by show 1 * 40 ≤ _; decide)) ?_
        rintro v67 _ _ ⟨rfl, rfl⟩
        refine ⟨Le.refl _, .inr SubC.sub, ?_⟩
        refine r_len v67 (fun hsh67 hone67 => ?_)
        refine r_qf 19 (by kernel_rfl) rfl rfl rfl rfl (fun _ => q_nilCheck rfl rfl) ?_
        refine r_qf 20 (by kernel_rfl) rfl rfl rfl rfl (fun _ => q_fieldAddr rfl Tryz.underlying65 rfl rfl ti23 rfl rfl) ?_
        refine r_e0 21 (by kernel_rfl) (by kernel_rfl) rfl (Le.refl _) rfl rfl (e_storeS rfl ti23 rfl rfl (by first | exact ⟨rfl, rfl⟩ | assumption) rfl (by first | (simp only [List.set_cons_succ, List.set_cons_zero]; rfl) | rfl)) ?_
        rintro _ _ _ ⟨rfl, rfl⟩
        refine ⟨Le.refl _, .inl rfl, ?_⟩
        refine r_heap (H' := row b 65 [v67, av] :: _) ?_ (fun _ h => h)
        refine r_end (by kernel_rfl) ?_
        refine n_end0 rfl (fun w' hw => ?_)
        -- leaf 2
        obtain ⟨J, hJ, hw2, hsl⟩ := st_freeze (xss := [vrC x]) (picks_st2 (tvec 28 5 vrC v67 ([x] ++ [])) (row b 65 [v67, av]) hw) rfl (fun c hc => by rw [List.mem_singleton] at hc; subst hc; rfl)
        exact ⟨_, rfl, J, _, ⟨hJ, rfl, v67, rfl, hsl⟩, subC_st hw2⟩
set_option maxRecDepth 10000 in
theorem setv_nil (b : Nat) (n v : List UInt8) (hn : n.length ≤ 1000000000) (hnm : nameB n = true) (hv : v.length ≤ 65536) (av : Value) (hav : One av) (I : Look) (F : List HA) (w0 w : World) (hw0 : St w0 I (row b 65 [nilV, av] :: F) w) : Calls Tryz.prog 25 [.pointer (some ⟨b, 0, none⟩), str n, str v].toArray w (fun e w' => ∃ v0, e = .returned v0 ∧ ∃ I' H', (Le I I' ∧ v0 = .int .i64 0 ∧ ∃ lv, H' = row b 65 [lv, av] :: F ∧ Sl I' 5 lv [vrC ⟨n, v, false, false, false⟩]) ∧ St w I' H' w') := by
  refine enter Tryz.func25 rfl Tryz.ntmps25 rfl (hw0.self) ?_
  refine t_seq ?_
  refine t_region ?_
  refine l_q rfl rfl rfl (q_assign rfl rfl) ?_
  refine l_nil ?_
  refine n_then ?_
  refine t_seq ?_
  refine t_region ?_
  refine l_q rfl rfl rfl (q_move rfl rfl) ?_
  refine l_q rfl rfl rfl (q_move rfl rfl) ?_
  refine l_q rfl rfl rfl (quiet_call rfl rfl rfl Tryz.func45 (by kernel_rfl) rfl ((fun w hw => at_pure b [] nilV av w (by decide) (rowed_of hw) (sl_nil (fun _ h => by cases h)) n ⟨n, [], false, false, true⟩ ⟨-1, findV_nil _, rfl⟩))) ?_
  refine l_e rfl rfl rfl (e_alloc rfl ti28 rfl) ?_
  rintro _ _ _ ⟨b7, rfl, rfl, rfl⟩
  refine l_e0 rfl rfl ((by first | exact e_store_all rfl ti28 rfl rfl rfl (by first | exact chC_ones _ | exact pcC_ones _ | exact vrC_ones ⟨n, [], false, false, true⟩ | simp [Value.oneCell', str, u8]) rfl | exact e_store_agg rfl ti28 rfl rfl rfl (by first | exact chC_ones _ | exact pcC_ones _ | exact vrC_ones ⟨n, [], false, false, true⟩ | simp [Value.oneCell', str, u8]) rfl)) ?_
  rintro _ _ _ ⟨rfl, rfl⟩
  refine l_nil ?_
  refine n_then ?_
  refine t_seq ?_
  refine t_block ?_
  refine t_seq ?_
  refine t_region ?_
  refine l_q rfl rfl rfl (q_move rfl rfl) ?_
  refine l_q rfl rfl rfl (quiet_call rfl rfl rfl Tryz.func46 (by kernel_rfl) rfl ((fun w _ => rname_pure n w (by omega)))) ?_
  refine l_q rfl rfl rfl (q_not rfl rfl) ?_
  refine l_q rfl rfl rfl (q_assign rfl rfl) ?_
  refine l_nil ?_
  refine n_then ?_
  refine t_cond rfl (fun hc0 => ?_) (fun hc0 => ?_)
  · skip
    rw [hnm] at hc0
    cases hc0
  · skip
    refine t_seq ?_
    refine t_region ?_
    refine l_q rfl rfl rfl (q_fieldAddr rfl Tryz.underlying28 rfl rfl ti4 rfl rfl) ?_
    refine l_q rfl rfl rfl (q_load_row rfl Tryz.underlying4 rfl rfl (by rfl)) ?_
    refine l_q rfl rfl rfl (q_assign rfl rfl) ?_
    refine l_nil ?_
    refine n_then ?_
    refine t_cond rfl (fun hc1 => ?_) (fun hc1 => ?_)
    · skip
      cases hc1
    · skip
      refine t_seq ?_
      refine t_region ?_
      refine l_q rfl rfl rfl (q_move rfl rfl) ?_
      refine l_q rfl rfl rfl (q_len_str rfl Tryz.underlying9 rfl) ?_
      refine l_q rfl rfl rfl (q_gtr rfl rfl rfl) ?_
      refine l_q rfl rfl rfl (q_assign rfl rfl) ?_
      refine l_nil ?_
      refine n_then ?_
      refine t_cond rfl (fun hc2 => ?_) (fun hc2 => ?_)
      · skip
        try simp at hc2
        omega
      · skip
        try simp at hc2
        refine t_seq ?_
        refine t_qreg ?_
        refine s_q rfl rfl rfl (q_move rfl rfl) ?_
        refine s_q rfl rfl rfl (q_move rfl rfl) ?_
        refine s_q rfl rfl rfl (quiet_call rfl rfl rfl Tryz.func47 (by kernel_rfl) rfl ((fun w hw => find_pure b [] nilV av w (by decide) (rowed_of hw) (sl_nil (fun _ h => by cases h)) n (-1) (findV_nil _)))) ?_
        refine s_q rfl rfl rfl (q_lss rfl rfl rfl) ?_
        refine s_q rfl rfl rfl (q_move rfl rfl) ?_
        refine s_and2 6 4 27 34 33 _ _ rfl rfl rfl rfl rfl rfl (fun h34 => by
            try simp at h34
            refine s_g rfl rfl rfl rfl rfl rfl (q_move rfl rfl) ?_
            refine s_g rfl rfl rfl rfl rfl rfl (q_nilCheck rfl rfl) ?_
            refine s_g rfl rfl rfl rfl rfl rfl (q_fieldAddr rfl Tryz.underlying65 rfl rfl ti23 rfl rfl) ?_
            refine s_g rfl rfl rfl rfl rfl rfl (q_load_row rfl Tryz.underlying23 rfl rfl (by rfl)) ?_
            refine s_g rfl rfl rfl rfl rfl rfl ((by first | exact q_lenV rfl Tryz.underlying23 rfl | exact q_len rfl Tryz.underlying23 rfl (⟨none, 0, rfl⟩))) ?_
            refine s_g rfl rfl rfl rfl rfl rfl (q_geq rfl rfl rfl) ?_
            exact s_val rfl
          ) (wanted_n rfl) rfl rfl rfl ?_
        refine s_q rfl rfl rfl (q_assign rfl rfl) ?_
        refine s_done ?_
        refine n_then ?_
        refine t_cond rfl (fun hc3 => ?_) (fun hc3 => ?_)
        · skip
          cases hc3
        · skip
          refine t_skip ?_
          refine n_block ?_
          refine n_then ?_
          refine t_seq ?_
          refine t_region ?_
          refine l_q rfl rfl rfl (q_move rfl rfl) ?_
          refine l_q rfl rfl rfl (q_fieldAddr rfl Tryz.underlying28 rfl rfl ti9 rfl rfl) ?_
          refine l_e0 rfl rfl (e_storeS rfl ti9 rfl rfl (by first | exact ⟨rfl, rfl⟩ | assumption) rfl (by first | (simp only [List.set_cons_succ, List.set_cons_zero]; rfl) | rfl)) ?_
          rintro _ _ _ ⟨rfl, rfl⟩
          refine l_heap (H' := row b7 28 (vrC ⟨n, v, false, false, true⟩) :: _) ?_ (fun _ h => h)
          refine l_nil ?_
          refine n_then ?_
          refine t_seq ?_
          refine t_region ?_
          refine l_q rfl rfl rfl (q_fieldAddr rfl Tryz.underlying28 rfl rfl ti4 rfl rfl) ?_
          refine l_e0 rfl rfl (e_storeS rfl ti4 rfl rfl (by first | exact ⟨rfl, rfl⟩ | assumption) rfl (by first | (simp only [List.set_cons_succ, List.set_cons_zero]; rfl) | rfl)) ?_
          rintro _ _ _ ⟨rfl, rfl⟩
          refine l_heap (H' := row b7 28 (vrC ⟨n, v, false, false, false⟩) :: _) ?_ (fun _ h => h)
          refine l_nil ?_
          refine n_then ?_
          refine t_seq ?_
          refine t_region ?_
          refine l_q rfl rfl rfl (q_move rfl rfl) ?_
          refine l_q rfl rfl rfl (q_load_rowA rfl Tryz.underlying28 ti28 rfl rfl rfl) ?_
          refine l_e rfl rfl rfl (eff_call rfl rfl rfl Tryz.func48 (by kernel_rfl) rfl (fun w hw => put_nil b ⟨n, v, false, false, false⟩ av hav I (row b7 28 (vrC ⟨n, v, false, false, false⟩) :: F) _ w (picks_st2 (row b 65 [nilV, av]) (row b7 28 (vrC ⟨n, v, false, false, false⟩)) hw))) ?_
          rintro _ J40 _ ⟨hJ40, rfl, lv, rfl, hlv⟩
          refine l_nil ?_
          refine n_then ?_
          refine t_seq ?_
          refine t_region ?_
          refine l_q rfl rfl rfl (q_assign rfl rfl) ?_
          refine l_nil ?_
          refine n_then ?_
          refine t_ret ?_
          refine n_ret1 rfl rfl (fun w' hw => ?_)
          -- leaf 0
          exact ⟨_, rfl, J40, _, ⟨hJ40, rfl, lv, rfl, hlv⟩, subC_st hw⟩
set_option maxRecDepth 10000 in
theorem mark_pure (b : Nat) (n : List UInt8) (w : World) (hn : n.length ≤ 1000000000) (hnm : nameB n = true) : Pure Tryz.prog 26 [.pointer (some ⟨b, 0, none⟩), str n, .bool false, .bool false] w (.int .i64 0) := by
  refine enter Tryz.func26 rfl Tryz.ntmps26 rfl (St.start w (look w) (Le.refl _)) ?_
  refine t_seq ?_
  refine t_region ?_
  refine l_q rfl rfl rfl (q_assign rfl rfl) ?_
  refine l_nil ?_
  refine n_then ?_
  refine t_seq ?_
  refine t_block ?_
  refine t_seq ?_
  refine t_region ?_
  refine l_q rfl rfl rfl (q_move rfl rfl) ?_
  refine l_q rfl rfl rfl (quiet_call rfl rfl rfl Tryz.func46 (by kernel_rfl) rfl ((fun w _ => rname_pure n w (by omega)))) ?_
  refine l_q rfl rfl rfl (q_not rfl rfl) ?_
  refine l_q rfl rfl rfl (q_assign rfl rfl) ?_
  refine l_nil ?_
  refine n_then ?_
  refine t_cond rfl (fun hc0 => ?_) (fun hc0 => ?_)
  · skip
    rw [hnm] at hc0
    cases hc0
  · skip
    refine t_seq ?_
    refine t_qreg ?_
    refine s_q rfl rfl rfl (q_move rfl rfl) ?_
    refine s_q rfl rfl rfl (q_not rfl rfl) ?_
    refine s_q rfl rfl rfl (q_move rfl rfl) ?_
    refine s_and2 2 2 17 20 19 _ _ rfl rfl rfl rfl rfl rfl (fun h20 => by
        try simp at h20
        refine s_g rfl rfl rfl rfl rfl rfl (q_move rfl rfl) ?_
        refine s_g rfl rfl rfl rfl rfl rfl (q_not rfl rfl) ?_
        exact s_val rfl
      ) (wanted_n rfl) rfl rfl rfl ?_
    refine s_q rfl rfl rfl (q_assign rfl rfl) ?_
    refine s_done ?_
    refine n_then ?_
    refine t_cond rfl (fun hc1 => ?_) (fun hc1 => ?_)
    · skip
      refine t_seq ?_
      refine t_region ?_
      refine l_q rfl rfl rfl (q_assign rfl rfl) ?_
      refine l_nil ?_
      refine n_then ?_
      refine t_ret ?_
      refine n_ret_block ?_
      refine n_ret_then ?_
      refine n_ret1 rfl rfl (fun w' hw => ?_)
      -- leaf 0
      refine ⟨?_, hw.below⟩
      rfl
    · skip
      cases hc1
set_option maxRecDepth 10000 in
theorem setArgs_calls (b : Nat) (lv av : Value) (I : Look) (F : List HA) (w0 w : World) (hw0 : St w0 I (row b 65 [lv, av] :: F) w) : Calls Tryz.prog 27 [.pointer (some ⟨b, 0, none⟩), nilV].toArray w (fun e w' => ∃ v, e = .returned v ∧ ∃ I' H', (Le I I' ∧ v = .int .i64 0 ∧ ∃ av, H' = row b 65 [lv, av] :: F ∧ One av) ∧ St w I' H' w') := by
  refine enter Tryz.func27 rfl Tryz.ntmps27 rfl (hw0.self) ?_
  refine t_seq ?_
  refine t_region ?_
  refine l_q rfl rfl rfl (q_assign rfl rfl) ?_
  refine l_nil ?_
  refine n_then ?_
  refine t_seq ?_
  refine t_seq ?_
  refine t_region ?_
  refine l_q rfl rfl rfl (q_move rfl rfl) ?_
  refine l_q rfl rfl rfl ((by first | exact q_lenV rfl Tryz.underlying24 rfl | exact q_len rfl Tryz.underlying24 rfl (⟨none, 0, rfl⟩))) ?_
  refine l_q rfl rfl rfl (q_gtr rfl rfl rfl) ?_
  refine l_nil ?_
  refine n_then ?_
  refine t_cond rfl (fun hc0 => ?_) (fun hc0 => ?_)
  · skip
    exact absurd hc0 (by decide)
  · skip
    refine t_skip ?_
    refine n_then ?_
    refine t_seq ?_
    refine t_region ?_
    refine l_q rfl rfl rfl (q_move rfl rfl) ?_
    refine l_e rfl rfl rfl (e_buildSlice0 rfl Tryz.underlying24 ti9) ?_
    rintro v9 _ _ ⟨⟨b9, hb9⟩, rfl, rfl⟩
    refine l_q rfl rfl rfl (q_move rfl rfl) ?_
    refine l_e rfl rfl rfl (e_appendSl (f := svC) (l := []) (ls := []) rfl Tryz.underlying24 ti9 rfl rfl rfl rfl (sl_cut1) rfl (fun _ => rfl) svC_ones (by decide) (by decide)) ?_
    rintro v11 _ _ ⟨rfl, rfl⟩
    refine l_len v11 (fun hsh11 hone => ?_)
    refine l_q rfl rfl rfl (q_nilCheck rfl rfl) ?_
    refine l_q rfl rfl rfl (q_fieldAddr rfl Tryz.underlying65 rfl rfl ti24 rfl rfl) ?_
    refine l_e0 rfl rfl (e_storeS rfl ti24 rfl rfl (by first | exact ⟨rfl, rfl⟩ | assumption) rfl (by first | (simp only [List.set_cons_succ, List.set_cons_zero]; rfl) | rfl)) ?_
    rintro _ _ _ ⟨rfl, rfl⟩
    refine l_nil ?_
    refine n_then ?_
    refine t_seq ?_
    refine t_region ?_
    refine l_q rfl rfl rfl (q_assign rfl rfl) ?_
    refine l_nil ?_
    refine n_then ?_
    refine t_ret ?_
    refine n_ret1 rfl rfl (fun w' hw => ?_)
    -- leaf 0
    exact ⟨_, rfl, I, _, ⟨Le.refl _, rfl, v11, rfl, hone⟩, subC_st (H := row b 65 [lv, v11] :: tvec 9 1 svC v11 ([] ++ []) :: F) hw⟩
set_option maxRecDepth 10000 in
theorem new_calls (I : Look) (F : List HA) (w0 w : World) (hw0 : St w0 I F w) : Calls Tryz.prog 24 [].toArray w (fun e w' => ∃ v, e = .returned v ∧ ∃ I' H', (I = I' ∧ F = H' ∧ ∃ b, v = .pointer (some ⟨b, 0, none⟩)) ∧ St w I' H' w') := by
  refine enter Tryz.func24 rfl Tryz.ntmps24 rfl (hw0.self) ?_
  refine t_seq ?_
  refine t_region ?_
  refine l_q rfl rfl rfl (q_assign rfl rfl) ?_
  refine l_nil ?_
  refine n_then ?_
  refine t_seq ?_
  refine t_region ?_
  refine l_q rfl rfl rfl (q_build (pl := [(_, _), (_, _), (_, _), (_, _), (_, _), (_, _), (_, _), (_, _)]) (cs := #[_, _, _, _, _, _, _, _]) rfl Tryz.underlying119 ti119 ⟨rfl, ⟨_, _, ti3⟩, rfl, ⟨_, _, ti3⟩, rfl, ⟨_, _, ti3⟩, rfl, ⟨_, _, ti3⟩, rfl, ⟨_, _, ti3⟩, rfl, ⟨_, _, ti9⟩, rfl, ⟨_, _, ti24⟩, rfl, ⟨_, _, ti117⟩, trivial⟩ rfl rfl) ?_
  refine l_q rfl rfl rfl (q_build (pl := [(_, _), (_, _), (_, _), (_, _), (_, _), (_, _), (_, _), (_, _)]) (cs := #[_, _, _, _, _, _, _, _]) rfl Tryz.underlying119 ti119 ⟨rfl, ⟨_, _, ti3⟩, rfl, ⟨_, _, ti3⟩, rfl, ⟨_, _, ti3⟩, rfl, ⟨_, _, ti3⟩, rfl, ⟨_, _, ti3⟩, rfl, ⟨_, _, ti9⟩, rfl, ⟨_, _, ti24⟩, rfl, ⟨_, _, ti117⟩, trivial⟩ rfl rfl) ?_
  refine l_e rfl rfl rfl (e_buildSliceN (vs := [_, _]) (css := [[.int .i64 0, .int .i64 0, .int .i64 0, .int .i64 0, .int .i64 0, str [], .slice none 0 0, .slice none 0 0], [.int .i64 2, .int .i64 493, .int .i64 1, .int .i64 0, .int .i64 1, str [], .slice none 0 0, .slice none 0 0]]) rfl Tryz.underlying120 ti119 rfl rfl rfl rfl (rfl) (by simp [pcC, chC])) ?_
  rintro _ _ _ ⟨b3, rfl, rfl, rfl⟩
  refine l_q rfl rfl rfl (q_build (pl := [(_, _)]) (cs := #[_]) rfl Tryz.underlying122 ti122 ⟨rfl, ⟨_, _, ti120⟩, trivial⟩ rfl rfl) ?_
  refine l_e rfl rfl rfl (e_box rfl rfl rfl) ?_
  rintro _ _ _ ⟨b5, rfl, rfl, rfl⟩
  refine l_q rfl rfl rfl (q_assign rfl rfl) ?_
  refine l_nil ?_
  refine n_then ?_
  refine t_ret ?_
  refine n_ret1 rfl rfl (fun w' hw => ?_)
  -- leaf 0
  exact ⟨_, rfl, I, F, ⟨rfl, rfl, b5, rfl⟩, subC_st hw⟩
end Go.Tri
