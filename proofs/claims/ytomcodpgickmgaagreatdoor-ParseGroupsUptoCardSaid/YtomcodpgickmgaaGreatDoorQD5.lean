/-
  The parser: simple commands.
-/
import Derived.Test.YtomcodpgickmgaaGreatDoorQD1
import Derived.Test.YtomcodpgickmgaaGreatDoorQC7
import Derived.Test.YtomcodpgickmgaaGreatDoorTriB20
namespace Go.Tri
open Go.Proofs Go.RowKit
theorem snoc_one {α : Type} {l : List α} {x d : α} (h : (decide (((l ++ [x]).length : Int) = 1)) = true) : l = [] ∧ nth (l ++ [x]) 0 d = x := by
  have h := of_decide_eq_true h
  rw [List.length_append, List.length_singleton] at h
  have : l = [] := List.length_eq_zero_iff.1 (by omega)
  subst this
  exact ⟨rfl, rfl⟩
theorem simpB_t {ws : List (List UInt8)} {c : Bool} (h : (decide ((ws.length : Int) = 0) && c) = true) : ws = [] ∧ c = true := by
  rw [Bool.and_eq_true, decide_eq_true_eq] at h
  exact ⟨List.length_eq_zero_iff.1 (by omega), h.2⟩
theorem simpB_f {ws : List (List UInt8)} {c : Bool} (h : (decide ((ws.length : Int) = 0) && c) = false) : ¬ (ws = [] ∧ c = true) := fun ⟨h1, h2⟩ => by
  subst h1; subst h2
  cases h
theorem lens0 {ws : List (List UInt8)} {rs : List Rdr} (h : (ws.length : Int) + (rs.length : Int) = 0) : ws = [] ∧ rs = [] := ⟨List.length_eq_zero_iff.1 (by omega), List.length_eq_zero_iff.1 (by omega)⟩
theorem sq_on {ws : List (List UInt8)} {wx : List UInt8} {rs : List Rdr} (h : ((decide (((ws ++ [wx]).length : Int) = 1) && decide ((rs.length : Int) = 0)) && nameB (nth (ws ++ [wx]) 0 [])) = true) : ws = [] ∧ rs = [] ∧ nameB wx = true := by
  rw [Bool.and_eq_true, Bool.and_eq_true] at h
  obtain ⟨⟨h1, h2⟩, h3⟩ := h
  obtain ⟨h4, h5⟩ := snoc_one (d := []) h1
  rw [h5] at h3
  have := of_decide_eq_true h2
  exact ⟨h4, List.length_eq_zero_iff.1 (by omega), h3⟩
theorem sq_off {ws : List (List UInt8)} {wx : List UInt8} {rs : List Rdr} (h : ((decide (((ws ++ [wx]).length : Int) = 1) && decide ((rs.length : Int) = 0)) && nameB (nth (ws ++ [wx]) 0 [])) = false) : ¬ (ws = [] ∧ rs = [] ∧ nameB wx = true) := fun ⟨h1, h2, h3⟩ => by
  subst h1; subst h2
  rw [show nth ([] ++ [wx]) 0 [] = wx from rfl, h3] at h
  cases h
set_option maxRecDepth 10000 in
set_option maxHeartbeats 1000000 in
theorem simple_calls (b : Nat) (s : List UInt8) (hs : s.length ≤ 65536) (G : List UInt8 → PS → ReR Nd) (d : Nat) (hd : d ≤ 24) (hG : ∀ name, ParC 169 b s [str name, .int .i64 ((d : Int) + 1)] (G name) NdV 1) : ParC 136 b s [.int .i64 (d : Int)] (simpP s G) NdV 1 := by
  intro p lv I F w0 w R hR hp hw0
  have hL := Le.refl I
  obtain ⟨M, hM⟩ : ∃ M, M = muP s p := ⟨_, rfl⟩
  unfold simpP at hR
  have hm2 := mu_le hp.1
  refine enter Tryz.func136 rfl Tryz.ntmps136 rfl (hw0.self) ?_
  refine t_seq ?_
  refine t_region ?_
  refine l_e rfl rfl rfl (e_alloc rfl ti29 rfl) ?_
  rintro _ _ _ ⟨b4, rfl, rfl, rfl⟩
  refine l_heap (H' := row b4 29 (ncC nc0) :: _) ?_ (fun _ h => h)
  refine l_nil ?_
  refine n_then ?_
  refine t_seq ?_
  refine t_region ?_
  refine l_q rfl rfl rfl (q_build (pl := [(_, _), (_, _), (_, _), (_, _), (_, _), (_, _), (_, _)]) (cs := (ncC ⟨1, false, false, [], nilS', nilS', nilS'⟩).toArray) rfl Tryz.underlying29 ti29 ⟨rfl, ⟨_, _, ti3⟩, rfl, ⟨_, _, ti4⟩, rfl, ⟨_, _, ti4⟩, rfl, ⟨_, _, ti9⟩, rfl, ⟨_, _, ti25⟩, rfl, ⟨_, _, ti26⟩, rfl, ⟨_, _, ti27⟩, trivial⟩ rfl rfl) ?_
  refine l_e rfl rfl rfl (e_alloc rfl ti29 rfl) ?_
  rintro _ _ _ ⟨b5, rfl, rfl, rfl⟩
  refine l_e0 rfl rfl ((by first | exact e_store_all rfl ti29 rfl rfl rfl (by first | exact chC_ones _ | exact pcC_ones _ | exact nc0_ones | exact kc_ones slb_one | exact wv_ones nil_one nil_one nil_one | exact hnf.ones | exact hn75.ones | simp [Value.oneCell', str, u8]) rfl | exact e_store_agg rfl ti29 rfl rfl rfl (by first | exact chC_ones _ | exact pcC_ones _ | exact nc0_ones | exact kc_ones slb_one | exact wv_ones nil_one nil_one nil_one | exact hnf.ones | exact hn75.ones | simp [Value.oneCell', str, u8]) rfl)) ?_
  rintro _ _ _ ⟨rfl, rfl⟩
  refine l_heap (H' := row b5 29 (ncC ⟨1, false, false, [], nilS', nilS', nilS'⟩) :: _) ?_ (fun _ h => h)
  refine l_nil ?_
  refine n_then ?_
  refine t_block ?_
  refine t_loopE (ι := PS × Value × Look × Value × List (List UInt8) × Value × List Rdr × Nat) (fun zz => Le I zz.2.2.1 ∧ PSt s zz.1 zz.2.1 zz.2.2.1 ∧ muP s zz.1 + zz.2.2.2.2.1.length + zz.2.2.2.2.2.2.1.length ≤ M ∧ muP s zz.1 < zz.2.2.2.2.2.2.2 ∧ R = simpN s G zz.2.2.2.2.2.2.2 zz.2.2.2.2.1 zz.2.2.2.2.2.2.1 zz.1) (fun zz => muP s zz.1) (fun zz => []) [(0, _), (1, _), (4, _), (5, _)] (fun zz => zz.2.2.1) (fun zz => (tvec 9 1 stC zz.2.2.2.1 zz.2.2.2.2.1 :: tvec 59 5 rdCell zz.2.2.2.2.2.1 zz.2.2.2.2.2.2.1 :: row b5 29 (ncC ⟨1, false, false, [], zz.2.2.2.1, zz.2.2.2.2.2.1, nilS'⟩) :: row b4 29 (ncC nc0) :: row b 53 (prC s zz.2.1 zz.1.next) :: F)) (p, lv, I, nilS', [], nilS', [], muP s p + 1) ?_ (sub_nil) (sub_cons rfl (sub_cons rfl (sub_cons rfl (sub_cons rfl sub_nil)))) (fun _ h => by dsimp only; exact subC_st (st_nilT 9 1 stC (st_nilT 59 5 rdCell h))) ?_
  · try dsimp only
    exact ⟨hL, hp, by simp only [List.length_nil]; omega, Nat.lt_succ_self _, hR⟩
  rintro ⟨p, lv, J, wv, ws, rv, rs, g⟩ ⟨hL, hp, hmu, hg, hR⟩
  try dsimp only at *
  obtain ⟨g, rfl⟩ : ∃ g', g = g' + 1 := ⟨g - 1, by omega⟩
  refine t_block ?_
  refine t_seq ?_
  refine t_block ?_
  refine t_seq ?_
  refine t_region ?_
  refine l_q rfl rfl rfl (q_move rfl rfl) ?_
  refine l_eP rfl rfl rfl (eff_callP rfl rfl rfl Tryz.func165 (by kernel_rfl) rfl (fun w hw => redirected_calls b s hs p lv _ _ _ w _ rfl hp (picks_st1 (row b 53 (prC s lv p.next)) hw))) ?_ ?_
  · skip
    rintro _ Jx _ ⟨hJx, rfl, ax, ex, hbx, rfl⟩
    rw [simpN, bnd_bad hbx] at hR
    refine np_then (np_block (np_then (np_block (np_then (np_block (?_))))))
    exact np_body fun w hw => .inr ⟨_, rfl, Jx, _, ⟨hL.trans hJx, rfl, ax, ex, hR, rfl⟩, subC_st hw⟩
  rintro v9 J _ ⟨hJ, x9, p, lv, he9, hmu9, hp, ⟨rfl, hf, rfl⟩, rfl⟩
  have hL := hL.trans hJ
  rw [simpN, bnd_ok he9] at hR
  refine l_q rfl rfl rfl (q_assign rfl rfl) ?_
  refine l_nil ?_
  refine n_then ?_
  refine t_cond rfl (fun hc0 => ?_) (fun hc0 => ?_)
  · skip
    rw [if_pos hc0] at hR
    refine t_seq ?_
    refine t_draw [3, 4, 5, 7] [7] [row b5 29 (ncC ⟨1, false, false, [], wv, rv, nilS'⟩)] mo (by kernel_rfl) (fun _ _ _ _ _ h => h) ?_
    refine r_q0 0 (by kernel_rfl) rfl (Le.refl _) rfl rfl rfl (fun _ hI => q_fieldAddr rfl Tryz.underlying29 rfl rfl ti26 rfl rfl) ?_
    refine r_q0 1 (by kernel_rfl) rfl (Le.refl _) rfl rfl rfl (fun _ hI => (by first | exact q_load_row rfl Tryz.underlying26 rfl rfl (by rfl) | exact q_load_vecF rfl Tryz.underlying26 rfl rfl (vec_at (fo := 0) (f := stC) (d := []) (fun _ => rfl) (show 0 < (ws ++ [wx]).length by simp) rfl))) ?_
    refine r_q1 2 (by kernel_rfl) rfl (Le.refl _) rfl rfl rfl (q_move rfl rfl) ?_
    refine r_eP 3 (by kernel_rfl) (by kernel_rfl) rfl (Le.refl _) rfl rfl rfl (eff_callP rfl rfl rfl Tryz.func166 (by kernel_rfl) rfl (fun w hw => redir_calls b s hs p lv _ _ _ w _ rfl hp (picks_st1 (row b 53 (prC s lv p.next)) hw))) ?_ ?_
    · skip
      rintro _ Jx _ ⟨hJx, rfl, ax, ex, hbx, rfl⟩
      rw [bnd_bad hbx] at hR
      refine np_then (np_block (np_then (np_block (np_then (np_block (?_))))))
      exact np_body fun w hw => .inr ⟨_, rfl, Jx, _, ⟨hL.trans hJx, rfl, ax, ex, hR, rfl⟩, subC_st hw⟩
    rintro v13 J _ ⟨hJ, x13, p, lv, he13, hmu13, hp, rfl, rfl⟩
    refine ⟨hJ, .inr SubC.sub, ?_⟩
    have hL := hL.trans hJ
    rw [bnd_ok he13] at hR
    refine r_e 4 (by kernel_rfl) (by kernel_rfl) rfl (hJ) rfl rfl rfl (e_buildSlice1 rfl Tryz.underlying26 ti59 rfl rfl rfl (by first | exact One.cells (by assumption) | exact One.cells hone | rfl) rfl) ?_
    rintro _ _ _ ⟨b14, rfl, rfl, rfl⟩
    refine ⟨Le.refl _, .inr SubC.sub, ?_⟩
    refine r_e 5 (by kernel_rfl) (by kernel_rfl) rfl (hJ) rfl rfl rfl (e_appendT (f := rdCell) (c := x13) rfl Tryz.underlying26 ti59 rfl rfl rfl rfl rfl rfl rfl (by first | exact stC_ones _ | exact rdCell_ones _ | exact byC_ones _ | exact chC_ones _ | exact pcC_ones _ | simp [Value.oneCell', str, u8] | exact ones1 (by assumption)) (by simp only [maxLen]; omega) (by omega)) ?_
    rintro v15 _ _ ⟨rfl, rfl⟩
    refine ⟨Le.refl _, .inr SubC.sub, ?_⟩
    refine r_one v15 (fun hone => ?_)
    refine r_q0 6 (by kernel_rfl) rfl (hJ) rfl rfl rfl (fun _ hI => q_fieldAddr rfl Tryz.underlying29 rfl rfl ti26 rfl rfl) ?_
    refine r_e0 7 (by kernel_rfl) (by kernel_rfl) rfl (hJ) rfl rfl (e_storeS rfl ti26 rfl rfl (by first | exact ⟨rfl, rfl⟩ | assumption | exact hone) rfl (by first | (simp only [List.set_cons_succ, List.set_cons_zero]; rfl) | rfl)) ?_
    rintro _ _ _ ⟨rfl, rfl⟩
    refine ⟨Le.refl _, .inl rfl, ?_⟩
    refine r_heap (H' := row b5 29 (ncC ⟨1, false, false, [], wv, v15, nilS'⟩) :: _) ?_ (fun _ h => h)
    refine r_end (by kernel_rfl) ?_
    refine n_then ?_
    refine t_exit ?_
    refine n_exit_other rfl ?_
    refine n_exit_then ?_
    refine n_exit_block ?_
    refine n_roundE ((p, lv, J, wv, ws, v15, rs ++ [x13], g)) ?_ ?_ (sub_nil) (sub_cons rfl (sub_cons rfl (sub_cons rfl (sub_cons rfl sub_nil)))) (fun _ h => by try dsimp only; exact subC_st h)
    · try dsimp only
      exact ⟨hL, hp, by rw [List.length_append, List.length_singleton]; omega, by omega, hR⟩
    · try dsimp only
      omega
  · skip
    rw [if_neg (by rw [hc0]; simp)] at hR
    refine t_seq ?_
    refine t_region ?_
    refine l_q rfl rfl rfl (q_move rfl rfl) ?_
    refine l_q rfl rfl rfl (quiet_call rfl rfl rfl Tryz.func33 (by kernel_rfl) rfl ((fun w hw => nowF_pure b s p lv w hs hf hp.1 (rowI_of hw) (hp.2.2.mono hw.le)))) ?_
    refine l_q rfl rfl rfl (q_field rfl Tryz.underlying79 rfl Tryz.underlying3 rfl rfl rfl) ?_
    refine l_q rfl rfl rfl (q_eql rfl rfl rfl) ?_
    refine l_q rfl rfl rfl (q_assign rfl rfl) ?_
    refine l_nil ?_
    refine n_then ?_
    refine t_cond rfl (fun hc1 => ?_) (fun hc1 => ?_)
    · skip
      try simp at hc1
      have hk1 : (headT s p).kind = 1 := by omega
      rw [if_pos hk1] at hR
      refine t_seq ?_
      refine t_seq ?_
      refine t_qreg ?_
      refine s_q rfl rfl rfl (q_fieldAddr rfl Tryz.underlying29 rfl rfl ti25 rfl rfl) ?_
      refine s_q rfl rfl rfl ((by first | exact q_load_row rfl Tryz.underlying25 rfl rfl (by rfl) | exact q_load_vecF rfl Tryz.underlying25 rfl rfl (vec_at (fo := 0) (f := stC) (d := []) (fun _ => rfl) (show 0 < (ws ++ [wx]).length by simp) rfl))) ?_
      refine s_q rfl rfl rfl ((by first | exact q_lenV rfl Tryz.underlying25 rfl | exact q_len rfl Tryz.underlying25 rfl (Sl.len ‹_›))) ?_
      refine s_q rfl rfl rfl (q_eql rfl rfl rfl) ?_
      refine s_q rfl rfl rfl (q_move rfl rfl) ?_
      refine s_and2 4 4 26 31 30 _ _ rfl rfl rfl rfl rfl rfl (fun h31 => by
          try simp at h31
          refine s_g rfl rfl rfl rfl rfl rfl (q_move rfl rfl) ?_
          refine s_g rfl rfl rfl rfl rfl rfl (quiet_call rfl rfl rfl Tryz.func33 (by kernel_rfl) rfl ((fun w hw => nowF_pure b s p lv w hs hf hp.1 (rowI_of hw) (hp.2.2.mono hw.le)))) ?_
          refine s_g rfl rfl rfl rfl rfl rfl (q_field rfl Tryz.underlying79 rfl Tryz.underlying9 rfl rfl rfl) ?_
          refine s_g rfl rfl rfl rfl rfl rfl (quiet_call rfl rfl rfl Tryz.func134 (by kernel_rfl) rfl ((fun w hw => among_pure reservedS (headT s p).text w (by decide) (by have := headT_len hp.1; omega) (hp.2.1.mono hw.le)))) ?_
          exact s_val rfl
        ) (wanted_n rfl) rfl rfl rfl ?_
      refine s_done ?_
      refine n_then ?_
      refine t_cond rfl (fun hc2 => ?_) (fun hc2 => ?_)
      · skip
        rw [if_pos (simpB_t hc2)] at hR
        refine t_region ?_
        refine l_q rfl rfl rfl (q_move rfl rfl) ?_
        refine l_eP rfl rfl rfl (eff_callP rfl rfl rfl Tryz.func35 (by kernel_rfl) rfl (fun w hw => badF_calls b s p lv hs _ _ _ w hf hp (picks_st1 (row b 53 (prC s lv p.next)) hw))) ?_ ?_
        · skip
          rintro _ Jx _ ⟨hJx, rfl, rfl⟩
          refine np_then (np_block (np_then (np_block (np_then (np_block (?_))))))
          exact np_body fun w hw => .inr ⟨_, rfl, Jx, _, ⟨hL.trans hJx, rfl, _, _, hR, rfl⟩, subC_st hw⟩
        rintro _ _ _ ⟨⟩
      · skip
        rw [if_neg (simpB_f hc2)] at hR
        have htl := headT_len hp.1
        have hms := mu_step (p := p) (s := s) (by omega)
        refine t_skip ?_
        refine n_then ?_
        refine t_seq ?_
        refine t_draw [3, 4, 5, 7] [7] [row b5 29 (ncC ⟨1, false, false, [], wv, rv, nilS'⟩)] mo (by kernel_rfl) (fun _ _ _ _ _ h => h) ?_
        refine r_q0 0 (by kernel_rfl) rfl (Le.refl _) rfl rfl rfl (fun _ hI => q_fieldAddr rfl Tryz.underlying29 rfl rfl ti25 rfl rfl) ?_
        refine r_q0 1 (by kernel_rfl) rfl (Le.refl _) rfl rfl rfl (fun _ hI => (by first | exact q_load_row rfl Tryz.underlying25 rfl rfl (by rfl) | exact q_load_vecF rfl Tryz.underlying25 rfl rfl (vec_at (fo := 0) (f := stC) (d := []) (fun _ => rfl) (show 0 < (ws ++ [wx]).length by simp) rfl))) ?_
        refine r_q1 2 (by kernel_rfl) rfl (Le.refl _) rfl rfl rfl (q_move rfl rfl) ?_
        refine r_eP 3 (by kernel_rfl) (by kernel_rfl) rfl (Le.refl _) rfl rfl rfl (eff_callP rfl rfl rfl Tryz.func167 (by kernel_rfl) rfl (fun w hw => pword_calls b s hs p lv _ _ _ w _ rfl hp (picks_st1 (row b 53 (prC s lv p.next)) hw))) ?_ ?_
        · skip
          rintro _ Jx _ ⟨hJx, rfl, ax, ex, hbx, rfl⟩
          rw [wordR_filled hf hk1] at hbx
          cases hbx
        rintro v37 J _ ⟨hJ, x37, p, lv, he37, hmu37, hp, ⟨rfl, htl37⟩, rfl⟩
        refine ⟨hJ, .inr SubC.sub, ?_⟩
        have hL := hL.trans hJ
        obtain ⟨hx37, hst37⟩ := word_inj hf hk1 he37
        obtain ⟨wx, hwx⟩ : ∃ z, x37 = z := ⟨_, rfl⟩
        rw [← hx37, hwx] at hR
        rw [← hst37] at hR
        rw [hwx] at htl37 ⊢
        refine r_e 4 (by kernel_rfl) (by kernel_rfl) rfl (hJ) rfl rfl rfl (e_buildSlice1 rfl Tryz.underlying25 ti9 rfl rfl rfl (by first | exact One.cells (by assumption) | exact One.cells hone | rfl) rfl) ?_
        rintro _ _ _ ⟨b38, rfl, rfl, rfl⟩
        refine ⟨Le.refl _, .inr SubC.sub, ?_⟩
        refine r_e 5 (by kernel_rfl) (by kernel_rfl) rfl (hJ) rfl rfl rfl (e_appendT (f := stC) (c := wx) rfl Tryz.underlying25 ti9 rfl rfl rfl rfl rfl rfl rfl (by first | exact stC_ones _ | exact rdCell_ones _ | exact byC_ones _ | exact chC_ones _ | exact pcC_ones _ | simp [Value.oneCell', str, u8] | exact ones1 (by assumption)) (by simp only [maxLen]; omega) (by omega)) ?_
        rintro v39 _ _ ⟨rfl, rfl⟩
        refine ⟨Le.refl _, .inr SubC.sub, ?_⟩
        refine r_one v39 (fun hone => ?_)
        refine r_q0 6 (by kernel_rfl) rfl (hJ) rfl rfl rfl (fun _ hI => q_fieldAddr rfl Tryz.underlying29 rfl rfl ti25 rfl rfl) ?_
        refine r_e0 7 (by kernel_rfl) (by kernel_rfl) rfl (hJ) rfl rfl (e_storeS rfl ti25 rfl rfl (by first | exact ⟨rfl, rfl⟩ | assumption | exact hone) rfl (by first | (simp only [List.set_cons_succ, List.set_cons_zero]; rfl) | rfl)) ?_
        rintro _ _ _ ⟨rfl, rfl⟩
        refine ⟨Le.refl _, .inl rfl, ?_⟩
        refine r_heap (H' := row b5 29 (ncC ⟨1, false, false, [], v39, rv, nilS'⟩) :: _) ?_ (fun _ h => h)
        refine r_end (by kernel_rfl) ?_
        refine n_then ?_
        refine t_seq ?_
        refine t_seq ?_
        refine t_region ?_
        refine l_quietHead 10 ?_
        refine s_q rfl rfl rfl (q_fieldAddr rfl Tryz.underlying29 rfl rfl ti25 rfl rfl) ?_
        refine s_q rfl rfl rfl ((by first | exact q_load_row rfl Tryz.underlying25 rfl rfl (by rfl) | exact q_load_vecF rfl Tryz.underlying25 rfl rfl (vec_at (fo := 0) (f := stC) (d := []) (fun _ => rfl) (show 0 < (ws ++ [wx]).length by simp) rfl))) ?_
        refine s_q rfl rfl rfl ((by first | exact q_lenV rfl Tryz.underlying25 rfl | exact q_len rfl Tryz.underlying25 rfl (Sl.len ‹_›))) ?_
        refine s_q rfl rfl rfl (q_eql rfl rfl rfl) ?_
        refine s_q rfl rfl rfl (q_move rfl rfl) ?_
        refine s_and2 4 4 45 50 49 _ _ rfl rfl rfl rfl rfl rfl (fun h50 => by
            try simp at h50
            refine s_g rfl rfl rfl rfl rfl rfl (q_fieldAddr rfl Tryz.underlying29 rfl rfl ti26 rfl rfl) ?_
            refine s_g rfl rfl rfl rfl rfl rfl ((by first | exact q_load_row rfl Tryz.underlying26 rfl rfl (by rfl) | exact q_load_vecF rfl Tryz.underlying26 rfl rfl (vec_at (fo := 0) (f := stC) (d := []) (fun _ => rfl) (show 0 < (ws ++ [wx]).length by simp) rfl))) ?_
            refine s_g rfl rfl rfl rfl rfl rfl ((by first | exact q_lenV rfl Tryz.underlying26 rfl | exact q_len rfl Tryz.underlying26 rfl (Sl.len ‹_›))) ?_
            refine s_g rfl rfl rfl rfl rfl rfl (q_eql rfl rfl rfl) ?_
            exact s_val rfl
          ) (wanted_n rfl) rfl rfl rfl ?_
        refine s_list ?_
        refine l_quietHead 7 ?_
        refine s_q rfl rfl rfl (q_move rfl rfl) ?_
        refine s_and2 5 10 51 57 56 _ _ rfl rfl rfl rfl rfl rfl (fun h57 => by
            try simp at h57
            have hw1 := h57.1
            have hwl1 : 0 < (ws ++ [wx]).length := by simp
            refine s_g rfl rfl rfl rfl rfl rfl (q_fieldAddr rfl Tryz.underlying29 rfl rfl ti25 rfl rfl) ?_
            refine s_g rfl rfl rfl rfl rfl rfl ((by first | exact q_load_row rfl Tryz.underlying25 rfl rfl (by rfl) | exact q_load_vecF rfl Tryz.underlying25 rfl rfl (vec_at (fo := 0) (f := stC) (d := []) (fun _ => rfl) (show 0 < (ws ++ [wx]).length by simp) rfl))) ?_
            refine s_g rfl rfl rfl rfl rfl rfl ((by first | exact q_indexAddrVN rfl Tryz.underlying25 ti9 rfl rfl (by omega) | exact q_indexAddrN rfl Tryz.underlying25 ti9 rfl rfl (Sl.shape ‹_› (by simp)) (by omega) | exact q_indexAddrV rfl Tryz.underlying25 ti9 rfl rfl (by omega) | exact q_indexAddr rfl Tryz.underlying25 ti9 rfl rfl (Sl.shape ‹_› (by simp)) (by omega))) ?_
            refine s_g rfl rfl rfl rfl rfl rfl ((by first | exact q_load_row rfl Tryz.underlying9 rfl rfl (by rfl) | exact q_load_vecF rfl Tryz.underlying9 rfl rfl (vec_at (fo := 0) (f := stC) (d := []) (fun _ => rfl) (show 0 < (ws ++ [wx]).length by simp) rfl))) ?_
            refine s_g rfl rfl rfl rfl rfl rfl (quiet_call rfl rfl rfl Tryz.func168 (by kernel_rfl) rfl ((fun w _ => name_pure (nth (ws ++ [wx]) 0 []) w (by rw [(snoc_one (d := []) (by simpa using hw1)).2]; omega)))) ?_
            exact s_val rfl
          ) (wanted_n rfl) rfl rfl rfl ?_
        refine s_list ?_
        refine l_q rfl rfl rfl (q_move rfl rfl) ?_
        refine l_split (t := 58) rfl (fun hs0 => ?_) (fun hs0 => ?_)
        · skip
          have hq := sq_on hs0
          have hwl1 : 0 < (ws ++ [wx]).length := by simp
          refine l_qg (wanted_g rfl rfl rfl rfl) rfl rfl (q_move rfl rfl) ?_
          refine l_egP (wanted_g rfl rfl rfl rfl) rfl rfl (eff_callP rfl rfl rfl Tryz.func55 (by kernel_rfl) rfl (fun w hw => op_calls b s hs [40] p lv _ _ _ w _ rfl hp (picks_st1 (row b 53 (prC s lv p.next)) hw))) ?_ ?_
          · skip
            rintro _ Jx _ ⟨hJx, rfl, ax, ex, hbx, rfl⟩
            rw [if_pos hq, bnd_bad hbx] at hR
            refine np_then (np_then (np_block (np_then (np_block (np_then (np_block (?_)))))))
            exact np_body fun w hw => .inr ⟨_, rfl, Jx, _, ⟨hL.trans hJx, rfl, ax, ex, hR, rfl⟩, subC_st hw⟩
          rintro v60 J _ ⟨hJ, x60, p, lv, he60, hmu60, hp, ⟨rfl, hf, rfl⟩, rfl⟩
          have hL := hL.trans hJ
          refine l_q rfl rfl rfl (q_pick rfl rfl rfl rfl) ?_
          refine l_nil ?_
          refine n_then ?_
          refine t_cond rfl (fun hc3 => ?_) (fun hc3 => ?_)
          · skip
            have h40 : opB [40] (headT s p) = true := hc3
            rw [if_pos hq, bnd_ok he60, if_pos h40] at hR
            refine t_seq ?_
            refine t_region ?_
            refine l_q rfl rfl rfl (q_move rfl rfl) ?_
            refine l_e rfl rfl rfl (eff_call rfl rfl rfl Tryz.func36 (by kernel_rfl) rfl (fun w hw => stepF_calls b s hs p lv _ _ _ w hf hp (picks_st1 (row b 53 (prC s lv p.next)) hw))) ?_
            rintro _ J _ ⟨hJ, rfl, p, lv, hst63, hma63, hmb63, hp, rfl⟩
            have hL := hL.trans hJ
            rw [← hst63] at hR
            have hmb := hmb63 (opB_kind h40)
            refine l_nil ?_
            refine n_then ?_
            refine t_seq ?_
            refine t_region ?_
            refine l_q rfl rfl rfl (q_move rfl rfl) ?_
            refine l_eP rfl rfl rfl (eff_callP rfl rfl rfl Tryz.func159 (by kernel_rfl) rfl (fun w hw => needOp_calls b s hs [41] p lv _ _ _ w _ rfl hp (picks_st1 (row b 53 (prC s lv p.next)) hw))) ?_ ?_
            · skip
              rintro _ Jx _ ⟨hJx, rfl, ax, ex, hbx, rfl⟩
              rw [bnd_bad hbx] at hR
              refine np_then (np_then (np_block (np_then (np_block (np_then (np_block (?_)))))))
              exact np_body fun w hw => .inr ⟨_, rfl, Jx, _, ⟨hL.trans hJx, rfl, ax, ex, hR, rfl⟩, subC_st hw⟩
            rintro v65 J _ ⟨hJ, x65, p, lv, he65, hmu65, hp, rfl, rfl⟩
            have hL := hL.trans hJ
            rw [bnd_ok he65] at hR
            refine l_nil ?_
            refine n_then ?_
            refine t_seq ?_
            refine t_region ?_
            refine l_q rfl rfl rfl (q_move rfl rfl) ?_
            refine l_eP rfl rfl rfl (eff_callP rfl rfl rfl Tryz.func32 (by kernel_rfl) rfl (fun w hw => lines_calls b s hs p lv _ _ _ w _ rfl hp (picks_st1 (row b 53 (prC s lv p.next)) hw))) ?_ ?_
            · skip
              rintro _ Jx _ ⟨hJx, rfl, ax, ex, hbx, rfl⟩
              rw [bnd_bad hbx] at hR
              refine np_then (np_then (np_block (np_then (np_block (np_then (np_block (?_)))))))
              exact np_body fun w hw => .inr ⟨_, rfl, Jx, _, ⟨hL.trans hJx, rfl, ax, ex, hR, rfl⟩, subC_st hw⟩
            rintro v67 J _ ⟨hJ, x67, p, lv, he67, hmu67, hp, ⟨rfl, hf, hk3⟩, rfl⟩
            have hL := hL.trans hJ
            rw [bnd_ok he67] at hR
            refine l_nil ?_
            refine n_then ?_
            refine t_seq ?_
            refine t_region ?_
            refine l_q rfl rfl rfl (q_move rfl rfl) ?_
            refine l_q rfl rfl rfl (q_fieldAddr rfl Tryz.underlying29 rfl rfl ti25 rfl rfl) ?_
            refine l_q rfl rfl rfl ((by first | exact q_load_row rfl Tryz.underlying25 rfl rfl (by rfl) | exact q_load_vecF rfl Tryz.underlying25 rfl rfl (vec_at (fo := 0) (f := stC) (d := []) (fun _ => rfl) (show 0 < (ws ++ [wx]).length by simp) rfl))) ?_
            refine l_q rfl rfl rfl ((by first | exact q_indexAddrVN rfl Tryz.underlying25 ti9 rfl rfl (by omega) | exact q_indexAddrN rfl Tryz.underlying25 ti9 rfl rfl (Sl.shape ‹_› (by simp)) (by omega) | exact q_indexAddrV rfl Tryz.underlying25 ti9 rfl rfl (by omega) | exact q_indexAddr rfl Tryz.underlying25 ti9 rfl rfl (Sl.shape ‹_› (by simp)) (by omega))) ?_
            refine l_q rfl rfl rfl ((by first | exact q_load_row rfl Tryz.underlying9 rfl rfl (by rfl) | exact q_load_vecF rfl Tryz.underlying9 rfl rfl (vec_at (fo := 0) (f := stC) (d := []) (fun _ => rfl) (show 0 < (ws ++ [wx]).length by simp) rfl))) ?_
            rw [show nth (ws ++ [wx]) 0 [] = wx by rw [hq.1]; rfl]
            refine l_q rfl rfl rfl (q_move rfl rfl) ?_
            refine l_q rfl rfl rfl (q_add64 rfl rfl rfl (by omega)) ?_
            refine l_eP rfl rfl rfl (eff_callP rfl rfl rfl Tryz.func169 (by kernel_rfl) rfl (fun w hw => (hG wx) p lv _ _ _ w _ rfl hp (picks_st1 (row b 53 (prC s lv p.next)) hw))) ?_ ?_
            · skip
              rintro _ Jx _ ⟨hJx, rfl, ax, ex, hbx, rfl⟩
              rw [hbx] at hR
              refine np_then (np_then (np_block (np_then (np_block (np_then (np_block (?_)))))))
              exact np_body fun w hw => .inr ⟨_, rfl, Jx, _, ⟨hL.trans hJx, rfl, ax, ex, hR, rfl⟩, subC_st hw⟩
            rintro v75 J _ ⟨hJ, x75, p, lv, he75, hmu75, hp, ⟨c75, rfl, hn75⟩, rfl⟩
            have hL := hL.trans hJ
            rw [he75] at hR
            refine l_e0 rfl rfl ((by first | exact e_store_all rfl ti29 rfl rfl rfl (by first | exact chC_ones _ | exact pcC_ones _ | exact nc0_ones | exact kc_ones slb_one | exact wv_ones nil_one nil_one nil_one | exact hnf.ones | exact hn75.ones | simp [Value.oneCell', str, u8]) rfl | exact e_store_agg rfl ti29 rfl rfl rfl (by first | exact chC_ones _ | exact pcC_ones _ | exact nc0_ones | exact kc_ones slb_one | exact wv_ones nil_one nil_one nil_one | exact hnf.ones | exact hn75.ones | simp [Value.oneCell', str, u8]) rfl)) ?_
            rintro _ _ _ ⟨rfl, rfl⟩
            refine l_heap (H' := row b4 29 (ncC c75) :: _) ?_ (fun _ h => h)
            refine l_nil ?_
            refine n_then ?_
            refine t_ret ?_
            refine n_ret_then ?_
            refine n_ret_block ?_
            refine n_ret_then ?_
            refine n_ret_block ?_
            refine n_ret_then ?_
            refine n_ret_block ?_
            refine n_retGG (.inl rfl) rfl (by exact rg_row rfl Tryz.underlying29 ti29 rfl rfl (rg_nil)) (fun w' hw => ?_)
            -- leaf 0
            exact .inl ⟨_, rfl, J, _, ⟨hL, _, p, lv, hR, (by omega), hp, ⟨_, rfl, hn75⟩, rfl⟩, subC_st hw⟩
          · skip
            have h40 : ¬ opB [40] (headT s p) = true := by rw [show opB [40] (headT s p) = false from hc3]; simp
            refine t_skip ?_
            refine n_then ?_
            refine t_exit ?_
            refine n_exit_other rfl ?_
            refine n_exit_then ?_
            refine n_exit_block ?_
            rw [if_pos hq, bnd_ok he60, if_neg h40] at hR
            skip
            refine n_roundE ((p, lv, J, v39, ws ++ [wx], rv, rs, g)) ?_ ?_ (sub_nil) (sub_cons rfl (sub_cons rfl (sub_cons rfl (sub_cons rfl sub_nil)))) (fun _ h => by try dsimp only; exact subC_st h)
            · try dsimp only
              exact ⟨hL, hp, by rw [List.length_append, List.length_singleton]; omega, by omega, by rw [hR, hq.1]; rfl⟩
            · try dsimp only
              omega
        · skip
          have hq := sq_off hs0
          refine l_skip rfl rfl rfl rfl rfl rfl rfl ?_
          refine l_skip rfl rfl rfl rfl rfl rfl rfl ?_
          refine l_q rfl rfl rfl (q_pick rfl rfl rfl rfl) ?_
          refine l_nil ?_
          refine n_then ?_
          refine t_cond rfl (fun hc4 => ?_) (fun hc4 => ?_)
          · skip
            cases hc4
          · skip
            refine t_skip ?_
            refine n_then ?_
            refine t_exit ?_
            refine n_exit_other rfl ?_
            refine n_exit_then ?_
            refine n_exit_block ?_
            rw [if_neg hq] at hR
            refine n_roundE ((p, lv, J, v39, ws ++ [wx], rv, rs, g)) ?_ ?_ (sub_nil) (sub_cons rfl (sub_cons rfl (sub_cons rfl (sub_cons rfl sub_nil)))) (fun _ h => by try dsimp only; exact subC_st h)
            · try dsimp only
              exact ⟨hL, hp, by rw [List.length_append, List.length_singleton]; omega, by omega, hR⟩
            · try dsimp only
              omega
    · skip
      try simp at hc1
      have hk1 : ¬ (headT s p).kind = 1 := by omega
      rw [if_neg hk1] at hR
      refine t_skip ?_
      refine n_block ?_
      refine n_then ?_
      refine t_seq ?_
      refine t_seq ?_
      refine t_region ?_
      refine l_q rfl rfl rfl (q_fieldAddr rfl Tryz.underlying29 rfl rfl ti25 rfl rfl) ?_
      refine l_q rfl rfl rfl ((by first | exact q_load_row rfl Tryz.underlying25 rfl rfl (by rfl) | exact q_load_vecF rfl Tryz.underlying25 rfl rfl (vec_at (fo := 0) (f := stC) (d := []) (fun _ => rfl) (show 0 < (ws ++ [wx]).length by simp) rfl))) ?_
      refine l_q rfl rfl rfl ((by first | exact q_lenV rfl Tryz.underlying25 rfl | exact q_len rfl Tryz.underlying25 rfl (Sl.len ‹_›))) ?_
      refine l_q rfl rfl rfl (q_fieldAddr rfl Tryz.underlying29 rfl rfl ti26 rfl rfl) ?_
      refine l_q rfl rfl rfl ((by first | exact q_load_row rfl Tryz.underlying26 rfl rfl (by rfl) | exact q_load_vecF rfl Tryz.underlying26 rfl rfl (vec_at (fo := 0) (f := stC) (d := []) (fun _ => rfl) (show 0 < (ws ++ [wx]).length by simp) rfl))) ?_
      refine l_q rfl rfl rfl ((by first | exact q_lenV rfl Tryz.underlying26 rfl | exact q_len rfl Tryz.underlying26 rfl (Sl.len ‹_›))) ?_
      refine l_q rfl rfl rfl (q_add64 rfl rfl rfl (by omega)) ?_
      refine l_q rfl rfl rfl (q_eql rfl rfl rfl) ?_
      refine l_nil ?_
      refine n_then ?_
      refine t_cond rfl (fun hc5 => ?_) (fun hc5 => ?_)
      · skip
        try simp at hc5
        rw [if_pos (lens0 hc5)] at hR
        refine t_region ?_
        refine l_q rfl rfl rfl (q_move rfl rfl) ?_
        refine l_eP rfl rfl rfl (eff_callP rfl rfl rfl Tryz.func35 (by kernel_rfl) rfl (fun w hw => badF_calls b s p lv hs _ _ _ w hf hp (picks_st1 (row b 53 (prC s lv p.next)) hw))) ?_ ?_
        · skip
          rintro _ Jx _ ⟨hJx, rfl, rfl⟩
          refine np_then (np_block (np_then (np_block (?_))))
          exact np_body fun w hw => .inr ⟨_, rfl, Jx, _, ⟨hL.trans hJx, rfl, _, _, hR, rfl⟩, subC_st hw⟩
        rintro _ _ _ ⟨⟩
      · skip
        try simp at hc5
        rw [if_neg (fun h => hc5 (by rw [h.1, h.2]; rfl))] at hR
        refine t_skip ?_
        refine n_then ?_
        refine t_seq ?_
        refine t_freezeT (f := stC) (l := ws) wv (fun _ => rfl) (fun J1 hJ1 hw1 => ?_)
        refine t_freezeT (f := rdCell) (l := rs) rv (fun _ => rfl) (fun J2 hJ2 hw2 => ?_)
        have hnf : NdAt J2 (.mk 1 false false [] ws rs []) ⟨1, false, false, [], wv, rv, nilS'⟩ := NdAt.of (hw1.mono hJ2) hw2 sl_nilS NdsAt.nil
        refine t_region ?_
        refine l_q rfl rfl rfl (q_load_rowA rfl Tryz.underlying29 ti29 rfl rfl rfl) ?_
        refine l_e0 rfl rfl ((by first | exact e_store_all rfl ti29 rfl rfl rfl (by first | exact chC_ones _ | exact pcC_ones _ | exact nc0_ones | exact kc_ones slb_one | exact wv_ones nil_one nil_one nil_one | exact hnf.ones | exact hn75.ones | simp [Value.oneCell', str, u8]) rfl | exact e_store_agg rfl ti29 rfl rfl rfl (by first | exact chC_ones _ | exact pcC_ones _ | exact nc0_ones | exact kc_ones slb_one | exact wv_ones nil_one nil_one nil_one | exact hnf.ones | exact hn75.ones | simp [Value.oneCell', str, u8]) rfl)) ?_
        rintro _ _ _ ⟨rfl, rfl⟩
        refine l_nil ?_
        refine n_then ?_
        refine t_ret ?_
        refine n_ret_block ?_
        refine n_ret_then ?_
        refine n_ret_block ?_
        refine n_retGG (.inl rfl) rfl (by exact rg_row rfl Tryz.underlying29 ti29 rfl rfl (rg_nil)) (fun w' hw => ?_)
        -- leaf 1
        exact .inl ⟨_, rfl, J2, _, ⟨(hL.trans hJ1).trans hJ2, _, p, lv, hR, by omega, (hp.mono hJ1).mono hJ2, ⟨_, rfl, hnf⟩, rfl⟩, subC_st hw⟩
end Go.Tri

/-
  The parser: all its levels.
-/
namespace Go.Tri
open Go.Proofs Go.RowKit
/-- a command and a compound one, by what is left of the depth -/
theorem lev_all (b : Nat) (s : List UInt8) (hs : s.length ≤ 65536) : ∀ n d : Nat, 25 - d = n → d ≤ 25 → ParC 109 b s [.int .i64 (d : Int)] (lvC s n).1 NdV 1 ∧ ∀ m, n = m + 1 → ParC 135 b s [.int .i64 (d : Int)] (lvC s (m + 1)).2 NdV 1
  | 0, d, h1, h2 => ⟨command_calls b s hs 0 d h1 h2 (fun m h => by cases h) (fun m h => by cases h), fun m h => by cases h⟩
  | m + 1, d, h1, h2 => by
    have hd : d ≤ 24 := by omega
    obtain ⟨i1, i2⟩ := lev_all b s hs m (d + 1) (by omega) (by omega)
    have hB : ParC 158 b s [.int .i64 ((d : Int) + 1)] (bodyP s (andorP s (pipeP s (lvC s m).1))) NdV 1 := body_calls b s hs _ (d + 1) (andor_calls b s hs _ (d + 1) (pipeline_calls b s hs _ (d + 1) i1))
    have hK : ParC 135 b s [.int .i64 (d : Int)] (lvC s (m + 1)).2 NdV 1 := compound_calls b s hs _ d hd hB (ifs_calls b s hs _ d hd hB) (fors_calls b s hs _ d hd hB) (cases_calls b s hs _ d hd hB)
    refine ⟨command_calls b s hs (m + 1) d h1 h2 (fun k hk => by cases hk; exact hK) (fun k hk => ?_), fun k hk => by cases hk; exact hK⟩
    cases hk
    exact simple_calls b s hs _ d hd (fun name => function_calls b s hs name m (d + 1) (by omega) (by omega) i2)
theorem item0_calls (b : Nat) (s : List UInt8) (hs : s.length ≤ 65536) : ParC 34 b s [.int .i64 0] (itemP s (levP s 25)) ItemV 1 :=
  item_calls b s hs _ 0 (andor_calls b s hs _ 0 (pipeline_calls b s hs _ 0 (lev_all b s hs 25 0 rfl (by omega)).1))
end Go.Tri

/-
  The parser: a complete command.
-/
namespace Go.Tri
open Go.Proofs Go.RowKit
def CompV : Look → PS → Option Nd → Value → Prop := fun I _ x v => ∃ c, v = .tuple #[.agg (ncC c).toArray, .bool x.isSome] ∧ match x with
  | none => c = nc0
  | some n => NdAt I n c
theorem more_cons {p : PS} {t : Tok} {r : List Tok} (h : p.line = t :: r) : moreB p = decide ((t.kind : Int) ≠ 3) := by
  unfold moreB
  rw [h]
  by_cases h3 : t.kind = 3 <;> simp [h3] <;> omega
theorem more_eq {s : List UInt8} {p : PS} {b : Bool} : ((b && decide ((0 : Int) < (p.line.length : Int))) && decide (((headT s p).kind : Int) ≠ 3)) = (b && moreB p) := by
  cases hl : p.line with
  | nil =>
    unfold moreB
    rw [hl]
    simp
  | cons t r =>
    rw [more_cons hl, headT_cons hl, Bool.and_assoc, decide_eq_true (show (0 : Int) < ((t :: r).length : Int) by rw [List.length_cons]; omega), Bool.true_and]
theorem rd_hd {s : List UInt8} {w0 : World} {I : Look} {H : List HA} {v u : Value} {p : PS} {j : Nat} (h : Sl I 5 v (p.line.map tokC)) (hne : p.line ≠ []) (hu : (tokC (headT s p))[j]? = some u) : Rd w0 I H (adr v).block ((adr v).off + 0 * 5 + j) u := by
  obtain ⟨t, r, hl⟩ := line_cases hne
  rw [headT_cons hl] at hu
  exact rd_tk h hl hu
theorem end_cons {l : List Nd} {p : PS} {t : Tok} {r : List Tok} (h : p.line = t :: r) : compEnd l p = if t.kind = 3 then .ok (some (severalP l)) (stepS p) else .bad t.pos 56 := by
  unfold compEnd
  rw [h]
theorem end_nil {l : List Nd} {p : PS} (h : p.line = []) : compEnd l p = .ok (some (severalP l)) p := by
  unfold compEnd
  rw [h]
set_option maxRecDepth 10000 in
theorem complete_calls (b : Nat) (s : List UInt8) (hs : s.length ≤ 65536) : ParC 18 b s [] (completeP s) CompV 0 := by
  intro p lv I F w0 w R hR hp hw0
  have hL := Le.refl I
  obtain ⟨M, hM⟩ : ∃ M, M = muP s p := ⟨_, rfl⟩
  unfold completeP at hR
  have hm2 := mu_le hp.1
  refine enter Tryz.func18 rfl Tryz.ntmps18 rfl (hw0.self) ?_
  refine t_seq ?_
  refine t_region ?_
  refine l_e rfl rfl rfl (e_alloc rfl ti29 rfl) ?_
  rintro _ _ _ ⟨b2, rfl, rfl, rfl⟩
  refine l_heap (H' := row b2 29 (ncC nc0) :: _) ?_ (fun _ h => h)
  refine l_q rfl rfl rfl (q_assign rfl rfl) ?_
  refine l_nil ?_
  refine n_then ?_
  refine t_seq ?_
  refine t_region ?_
  refine l_q rfl rfl rfl (q_move rfl rfl) ?_
  refine l_eP rfl rfl rfl (eff_callP rfl rfl rfl Tryz.func32 (by kernel_rfl) rfl (fun w hw => lines_calls b s hs p lv _ _ _ w _ rfl hp (picks_st1 (row b 53 (prC s lv p.next)) hw))) ?_ ?_
  · skip
    rintro _ Jx _ ⟨hJx, rfl, ax, ex, hbx, rfl⟩
    rw [bnd_bad hbx] at hR
    refine np_then (?_)
    exact np_body fun w hw => .inr ⟨_, rfl, Jx, _, ⟨hL.trans hJx, rfl, ax, ex, hR, rfl⟩, subC_st hw⟩
  rintro v9 J _ ⟨hJ, x9, p, lv, he9, hmu9, hp, ⟨rfl, hf, hk3⟩, rfl⟩
  have hL := hL.trans hJ
  rw [bnd_ok he9] at hR
  refine l_nil ?_
  refine n_then ?_
  refine t_seq ?_
  refine t_seq ?_
  refine t_region ?_
  refine l_q rfl rfl rfl (q_move rfl rfl) ?_
  refine l_eP rfl rfl rfl (eff_callP rfl rfl rfl Tryz.func33 (by kernel_rfl) rfl (fun w hw => now_calls b s hs p lv _ _ _ w _ rfl hp (picks_st1 (row b 53 (prC s lv p.next)) hw))) ?_ ?_
  · skip
    rintro _ Jx _ ⟨hJx, rfl, ax, ex, hbx, rfl⟩
    rw [bnd_bad hbx] at hR
    refine np_then (np_then (?_))
    exact np_body fun w hw => .inr ⟨_, rfl, Jx, _, ⟨hL.trans hJx, rfl, ax, ex, hR, rfl⟩, subC_st hw⟩
  rintro v11 J _ ⟨hJ, x11, p, lv, he11, hmu11, hp, ⟨rfl, hf, rfl⟩, rfl⟩
  have hL := hL.trans hJ
  rw [bnd_ok he11] at hR
  refine l_q rfl rfl rfl (q_field rfl Tryz.underlying79 rfl Tryz.underlying3 rfl rfl rfl) ?_
  refine l_q rfl rfl rfl (q_eql rfl rfl rfl) ?_
  refine l_nil ?_
  refine n_then ?_
  refine t_cond rfl (fun hc0 => ?_) (fun hc0 => ?_)
  · skip
    try simp at hc0
    rw [if_pos (show (headT s p).kind = 0 by omega)] at hR
    refine t_seq ?_
    refine t_region ?_
    refine l_q rfl rfl rfl (q_build (pl := [(_, _), (_, _), (_, _), (_, _), (_, _), (_, _), (_, _)]) (cs := (ncC nc0).toArray) rfl Tryz.underlying29 ti29 ⟨rfl, ⟨_, _, ti3⟩, rfl, ⟨_, _, ti4⟩, rfl, ⟨_, _, ti4⟩, rfl, ⟨_, _, ti9⟩, rfl, ⟨_, _, ti25⟩, rfl, ⟨_, _, ti26⟩, rfl, ⟨_, _, ti27⟩, trivial⟩ rfl rfl) ?_
    refine l_e0 rfl rfl ((by first | exact e_store_all rfl ti29 rfl rfl rfl (by first | exact chC_ones _ | exact pcC_ones _ | exact nc0_ones | exact kc_ones slb_one | exact hn18.ones | exact (several_at hvf (hns.mono hJf)).ones | simp [Value.oneCell', str, u8]) rfl | exact e_store_agg rfl ti29 rfl rfl rfl (by first | exact chC_ones _ | exact pcC_ones _ | exact nc0_ones | exact kc_ones slb_one | exact hn18.ones | exact (several_at hvf (hns.mono hJf)).ones | simp [Value.oneCell', str, u8]) rfl)) ?_
    rintro _ _ _ ⟨rfl, rfl⟩
    refine l_heap (H' := row b2 29 (ncC nc0) :: _) ?_ (fun _ h => h)
    refine l_q rfl rfl rfl (q_assign rfl rfl) ?_
    refine l_nil ?_
    refine n_then ?_
    refine t_ret ?_
    refine n_ret_then ?_
    refine n_retGG (.inl rfl) rfl (by exact rg_row rfl Tryz.underlying29 ti29 rfl rfl (rg_tmp rfl (rg_nil))) (fun w' hw => ?_)
    -- leaf 0
    exact .inl ⟨_, rfl, J, _, ⟨hL, none, p, lv, hR, by omega, hp, ⟨nc0, rfl, rfl⟩, rfl⟩, subC_st hw⟩
  · skip
    try simp at hc0
    rw [if_neg (show ¬ (headT s p).kind = 0 by omega)] at hR
    refine t_skip ?_
    refine n_then ?_
    refine t_seq ?_
    refine t_region ?_
    refine l_q rfl rfl rfl (q_assign rfl rfl) ?_
    refine l_nil ?_
    refine n_then ?_
    refine t_seq ?_
    refine t_seq ?_
    refine t_region ?_
    refine l_q rfl rfl rfl (q_assign rfl rfl) ?_
    refine l_nil ?_
    refine n_then ?_
    refine t_block ?_
    refine t_loopE (ι := PS × Value × Look × Value × List NC × List Nd × Nat × Bool) (fun zz => Le I zz.2.2.1 ∧ PSt s zz.1 zz.2.1 zz.2.2.1 ∧ NdsAt zz.2.2.1 zz.2.2.2.2.2.1 zz.2.2.2.2.1 ∧ muP s zz.1 + zz.2.2.2.2.2.1.length ≤ M ∧ (zz.2.2.2.2.2.2.2 = true → muP s zz.1 < zz.2.2.2.2.2.2.1 ∧ R = compN s zz.2.2.2.2.2.2.1 zz.2.2.2.2.2.1 zz.1) ∧ (zz.2.2.2.2.2.2.2 = false → R = compEnd zz.2.2.2.2.2.1 zz.1)) (fun zz => (if zz.2.2.2.2.2.2.2 then muP s zz.1 + 1 else 0)) (fun zz => [(4, zz.2.2.2.1), (5, .bool zz.2.2.2.2.2.2.2)]) [(0, _), (2, _), (3, _), (13, _)] (fun zz => zz.2.2.1) (fun zz => (tvec 29 7 ncC zz.2.2.2.1 zz.2.2.2.2.1 :: row b2 29 (ncC nc0) :: row b 53 (prC s zz.2.1 zz.1.next) :: F)) (p, lv, J, .slice none 0 0, [], [], muP s p + 1, true) ?_ (sub_cons rfl (sub_cons rfl sub_nil)) (sub_cons rfl (sub_cons rfl (sub_cons rfl (sub_cons rfl sub_nil)))) (fun _ h => by dsimp only; exact subC_st (st_nilT 29 7 ncC h)) ?_
    · try dsimp only
      exact ⟨hL, hp, NdsAt.nil, by simp only [List.length_nil]; omega, fun _ => ⟨Nat.lt_succ_self _, hR⟩, fun h => by cases h⟩
    rintro ⟨p, lv, J, v, cs, l, g, mo⟩ ⟨hL, hp, hns, hmu, hmt, hmf⟩
    try dsimp only at *
    have hcl := hns.len
    refine t_seq ?_
    refine t_seq ?_
    refine t_region ?_
    refine l_q rfl rfl rfl (q_move rfl rfl) ?_
    refine l_nil ?_
    refine n_then ?_
    refine t_cond rfl (fun hc1 => ?_) (fun hc1 => ?_)
    · skip
      subst hc1
      obtain ⟨hg, hR⟩ := hmt rfl
      obtain ⟨g, rfl⟩ : ∃ g', g = g' + 1 := ⟨g - 1, by omega⟩
      rw [compN] at hR
      refine t_skip ?_
      refine n_then ?_
      refine t_block ?_
      refine t_seq ?_
      refine t_region ?_
      refine l_q rfl rfl rfl (q_move rfl rfl) ?_
      refine l_eP rfl rfl rfl (eff_callP rfl rfl rfl Tryz.func34 (by kernel_rfl) rfl (fun w hw => item0_calls b s hs p lv _ _ _ w _ rfl hp (picks_st1 (row b 53 (prC s lv p.next)) hw))) ?_ ?_
      · skip
        rintro _ Jx _ ⟨hJx, rfl, ax, ex, hbx, rfl⟩
        rw [bnd_bad hbx] at hR
        refine np_then (np_block (np_then (np_block (np_then (?_)))))
        exact np_body fun w hw => .inr ⟨_, rfl, Jx, _, ⟨hL.trans hJx, rfl, ax, ex, hR, rfl⟩, subC_st hw⟩
      rintro v18 J _ ⟨hJ, x18, p, lv, he18, hmu18, hp, ⟨c18, rfl, hn18⟩, rfl⟩
      have hL := hL.trans hJ
      rw [bnd_ok he18] at hR
      have hns := hns.mono hJ
      refine l_q rfl rfl rfl (q_move rfl rfl) ?_
      refine l_q rfl rfl rfl (q_extract rfl rfl rfl) ?_
      refine l_q rfl rfl rfl (q_extract rfl rfl rfl) ?_
      refine l_e rfl rfl rfl (e_alloc rfl ti29 rfl) ?_
      rintro _ _ _ ⟨b6, rfl, rfl, rfl⟩
      refine l_e0 rfl rfl ((by first | exact e_store_all rfl ti29 rfl rfl rfl (by first | exact chC_ones _ | exact pcC_ones _ | exact nc0_ones | exact kc_ones slb_one | exact hn18.ones | exact (several_at hvf (hns.mono hJf)).ones | simp [Value.oneCell', str, u8]) rfl | exact e_store_agg rfl ti29 rfl rfl rfl (by first | exact chC_ones _ | exact pcC_ones _ | exact nc0_ones | exact kc_ones slb_one | exact hn18.ones | exact (several_at hvf (hns.mono hJf)).ones | simp [Value.oneCell', str, u8]) rfl)) ?_
      rintro _ _ _ ⟨rfl, rfl⟩
      refine l_heap (H' := row b6 29 (ncC c18) :: _) ?_ (fun _ h => h)
      refine l_q rfl rfl rfl (q_assign rfl rfl) ?_
      refine l_nil ?_
      refine n_then ?_
      refine t_seq ?_
      refine t_region ?_
      refine l_q rfl rfl rfl (q_move rfl rfl) ?_
      refine l_q rfl rfl rfl (q_load_rowA rfl Tryz.underlying29 ti29 rfl rfl rfl) ?_
      refine l_e rfl rfl rfl (e_buildSlice1 rfl Tryz.underlying27 ti29 rfl rfl rfl (by first | exact One.cells (by assumption) | exact One.cells hone | rfl) rfl) ?_
      rintro _ _ _ ⟨b23, rfl, rfl, rfl⟩
      refine l_e rfl rfl rfl (e_appendT (f := ncC) (c := c18) rfl Tryz.underlying27 ti29 rfl rfl rfl rfl rfl rfl rfl (by first | exact hn18.ones | exact byC_ones _ | exact chC_ones _ | exact pcC_ones _ | simp [Value.oneCell', str, u8] | exact ones1 (by assumption)) (by simp only [maxLen]; omega) (by omega)) ?_
      rintro v24 _ _ ⟨rfl, rfl⟩
      refine l_one v24 (fun hone => ?_)
      refine l_q rfl rfl rfl (q_assign rfl rfl) ?_
      refine l_nil ?_
      refine n_then ?_
      refine t_qreg ?_
      refine s_q rfl rfl rfl (q_move rfl rfl) ?_
      refine s_q rfl rfl rfl (q_move rfl rfl) ?_
      refine s_and2 6 1 26 33 32 _ _ rfl rfl rfl rfl rfl rfl (fun h33 => by
          try simp at h33
          refine s_g rfl rfl rfl rfl rfl rfl (q_move rfl rfl) ?_
          refine s_g rfl rfl rfl rfl rfl rfl (q_nilCheck rfl rfl) ?_
          refine s_g rfl rfl rfl rfl rfl rfl (q_fieldAddr rfl Tryz.underlying53 rfl rfl ti51 rfl rfl) ?_
          refine s_g rfl rfl rfl rfl rfl rfl ((by first | exact q_load_row rfl Tryz.underlying51 rfl rfl (by rfl) | exact q_load rfl Tryz.underlying51 rfl rfl (rd_hd (s := s) hp.2.2 hne rfl))) ?_
          refine s_g rfl rfl rfl rfl rfl rfl ((by first | exact q_lenV rfl Tryz.underlying51 rfl | exact q_len rfl Tryz.underlying51 rfl (Sl.lenOf hp.2.2 (List.length_map _)))) ?_
          refine s_g rfl rfl rfl rfl rfl rfl (q_gtr rfl rfl rfl) ?_
          exact s_val rfl
        ) (wanted_n rfl) rfl rfl rfl ?_
      refine s_q rfl rfl rfl (q_move rfl rfl) ?_
      refine s_and2 8 9 34 43 42 _ _ rfl rfl rfl rfl rfl rfl (fun h43 => by
          try simp at h43
          have hne : p.line ≠ [] := fun h => by rw [h] at h43; simp at h43
          have hpl := List.length_pos_iff.2 hne
          refine s_g rfl rfl rfl rfl rfl rfl (q_move rfl rfl) ?_
          refine s_g rfl rfl rfl rfl rfl rfl (q_nilCheck rfl rfl) ?_
          refine s_g rfl rfl rfl rfl rfl rfl (q_fieldAddr rfl Tryz.underlying53 rfl rfl ti51 rfl rfl) ?_
          refine s_g rfl rfl rfl rfl rfl rfl ((by first | exact q_load_row rfl Tryz.underlying51 rfl rfl (by rfl) | exact q_load rfl Tryz.underlying51 rfl rfl (rd_hd (s := s) hp.2.2 hne rfl))) ?_
          refine s_g rfl rfl rfl rfl rfl rfl ((by first | exact q_indexAddrVN rfl Tryz.underlying51 ti79 rfl rfl (by omega) | exact q_indexAddrN rfl Tryz.underlying51 ti79 rfl rfl (Sl.shape hp.2.2 (List.length_map _)) (by omega) | exact q_indexAddrV rfl Tryz.underlying51 ti79 rfl rfl (by omega) | exact q_indexAddr rfl Tryz.underlying51 ti79 rfl rfl (Sl.shape hp.2.2 (List.length_map _)) (by omega))) ?_
          refine s_g rfl rfl rfl rfl rfl rfl (q_fieldAddr rfl Tryz.underlying79 rfl rfl ti3 rfl rfl) ?_
          refine s_g rfl rfl rfl rfl rfl rfl ((by first | exact q_load_row rfl Tryz.underlying3 rfl rfl (by rfl) | exact q_load rfl Tryz.underlying3 rfl rfl (rd_hd (s := s) hp.2.2 hne rfl))) ?_
          refine s_g rfl rfl rfl rfl rfl rfl (q_neq rfl rfl rfl) ?_
          exact s_val rfl
        ) (wanted_n rfl) rfl rfl rfl ?_
      refine s_q rfl rfl rfl (q_assign rfl rfl) ?_
      refine s_done ?_
      refine n_block ?_
      refine n_roundE ((p, lv, J, v24, cs ++ [c18], l ++ [x18.1], g, x18.2 && moreB p)) ?_ ?_ (sub_cons rfl (sub_cons' rfl (congrArg Value.bool (more_eq)) (sub_nil))) (sub_cons rfl (sub_cons rfl (sub_cons rfl (sub_cons rfl sub_nil)))) (fun _ h => by try dsimp only; exact subC_st h)
      · try dsimp only
        refine ⟨hL, hp, NdsAt.snoc hn18 hns, by rw [List.length_append, List.length_singleton]; omega, fun h => ⟨by omega, by rw [hR, if_pos h]⟩, fun h => by rw [hR, if_neg (by rw [h]; simp)]⟩
      · try dsimp only
        rw [if_pos rfl]
        split <;> omega
    · skip
      subst hc1
      have hR := hmf rfl
      refine t_exit ?_
      refine n_exit_then ?_
      refine n_exit_then ?_
      refine n_exit_block ?_
      refine n_then ?_
      refine t_seq ?_
      refine t_seq ?_
      refine t_region ?_
      refine l_q rfl rfl rfl (q_move rfl rfl) ?_
      refine l_q rfl rfl rfl (q_nilCheck rfl rfl) ?_
      refine l_q rfl rfl rfl (q_fieldAddr rfl Tryz.underlying53 rfl rfl ti51 rfl rfl) ?_
      refine l_q rfl rfl rfl ((by first | exact q_load_row rfl Tryz.underlying51 rfl rfl (by rfl) | exact q_load rfl Tryz.underlying51 rfl rfl (rd_hd (s := s) hp.2.2 hne rfl))) ?_
      refine l_q rfl rfl rfl ((by first | exact q_lenV rfl Tryz.underlying51 rfl | exact q_len rfl Tryz.underlying51 rfl (Sl.lenOf hp.2.2 (List.length_map _)))) ?_
      refine l_q rfl rfl rfl (q_gtr rfl rfl rfl) ?_
      refine l_nil ?_
      refine n_then ?_
      refine t_cond rfl (fun hc2 => ?_) (fun hc2 => ?_)
      · skip
        obtain ⟨t0, r0, hln⟩ := line_cases (p := p) (fun h => by have h9 := hc2; rw [h] at h9; simp at h9)
        have hh := headT_cons (s := s) hln
        have hpl : 0 < p.line.length := List.length_pos_iff.2 (by rw [hln]; simp)
        have hne := List.length_pos_iff.1 hpl
        have hf : Filled s p := fun h => by rw [hln] at h; cases h.1
        rw [end_cons hln, ← hh] at hR
        refine t_seq ?_
        refine t_seq ?_
        refine t_region ?_
        refine l_q rfl rfl rfl (q_move rfl rfl) ?_
        refine l_q rfl rfl rfl (q_nilCheck rfl rfl) ?_
        refine l_q rfl rfl rfl (q_fieldAddr rfl Tryz.underlying53 rfl rfl ti51 rfl rfl) ?_
        refine l_q rfl rfl rfl ((by first | exact q_load_row rfl Tryz.underlying51 rfl rfl (by rfl) | exact q_load rfl Tryz.underlying51 rfl rfl (rd_hd (s := s) hp.2.2 hne rfl))) ?_
        refine l_q rfl rfl rfl ((by first | exact q_indexAddrVN rfl Tryz.underlying51 ti79 rfl rfl (by omega) | exact q_indexAddrN rfl Tryz.underlying51 ti79 rfl rfl (Sl.shape hp.2.2 (List.length_map _)) (by omega) | exact q_indexAddrV rfl Tryz.underlying51 ti79 rfl rfl (by omega) | exact q_indexAddr rfl Tryz.underlying51 ti79 rfl rfl (Sl.shape hp.2.2 (List.length_map _)) (by omega))) ?_
        refine l_q rfl rfl rfl (q_fieldAddr rfl Tryz.underlying79 rfl rfl ti3 rfl rfl) ?_
        refine l_q rfl rfl rfl ((by first | exact q_load_row rfl Tryz.underlying3 rfl rfl (by rfl) | exact q_load rfl Tryz.underlying3 rfl rfl (rd_hd (s := s) hp.2.2 hne rfl))) ?_
        refine l_q rfl rfl rfl (q_neq rfl rfl rfl) ?_
        refine l_nil ?_
        refine n_then ?_
        refine t_cond rfl (fun hc3 => ?_) (fun hc3 => ?_)
        · skip
          try simp at hc3
          rw [if_neg (show ¬ (headT s p).kind = 3 by omega)] at hR
          refine t_region ?_
          refine l_q rfl rfl rfl (q_move rfl rfl) ?_
          refine l_eP rfl rfl rfl (eff_callP rfl rfl rfl Tryz.func35 (by kernel_rfl) rfl (fun w hw => badF_calls b s p lv hs _ _ _ w hf hp (picks_st1 (row b 53 (prC s lv p.next)) hw))) ?_ ?_
          · skip
            rintro _ Jx _ ⟨hJx, rfl, rfl⟩
            refine np_then (np_then (?_))
            exact np_body fun w hw => .inr ⟨_, rfl, Jx, _, ⟨hL.trans hJx, rfl, _, _, hR, rfl⟩, subC_st hw⟩
          rintro _ _ _ ⟨⟩
        · skip
          try simp at hc3
          have hk3 : (headT s p).kind = 3 := by omega
          rw [if_pos hk3] at hR
          refine t_skip ?_
          refine n_then ?_
          refine t_region ?_
          refine l_q rfl rfl rfl (q_move rfl rfl) ?_
          refine l_e rfl rfl rfl (eff_call rfl rfl rfl Tryz.func36 (by kernel_rfl) rfl (fun w hw => stepF_calls b s hs p lv _ _ _ w hf hp (picks_st1 (row b 53 (prC s lv p.next)) hw))) ?_
          rintro _ J _ ⟨hJ, rfl, p, lv, hst61, hma61, hmb61, hp, rfl⟩
          have hL := hL.trans hJ
          rw [← hst61] at hR
          have hmb := hmb61 (by omega)
          have hns := hns.mono hJ
          refine l_nil ?_
          refine n_then ?_
          refine t_seq ?_
          refine t_freezeT (f := ncC) (l := cs) v (fun _ => rfl) (fun Jf hJf hvf => ?_)
          refine t_region ?_
          refine l_q rfl rfl rfl (q_move rfl rfl) ?_
          refine l_q rfl rfl rfl (quiet_call rfl rfl rfl Tryz.func37 (by kernel_rfl) rfl ((fun w hw => several_pure v cs w (by omega) (ones_nth hns) (hvf.mono hw.le)))) ?_
          refine l_e0 rfl rfl ((by first | exact e_store_all rfl ti29 rfl rfl rfl (by first | exact chC_ones _ | exact pcC_ones _ | exact nc0_ones | exact kc_ones slb_one | exact hn18.ones | exact (several_at hvf (hns.mono hJf)).ones | simp [Value.oneCell', str, u8]) rfl | exact e_store_agg rfl ti29 rfl rfl rfl (by first | exact chC_ones _ | exact pcC_ones _ | exact nc0_ones | exact kc_ones slb_one | exact hn18.ones | exact (several_at hvf (hns.mono hJf)).ones | simp [Value.oneCell', str, u8]) rfl)) ?_
          rintro _ _ _ ⟨rfl, rfl⟩
          refine l_heap (H' := row b2 29 (ncC (sevC v cs)) :: _) ?_ (fun _ h => h)
          refine l_q rfl rfl rfl (q_assign rfl rfl) ?_
          refine l_nil ?_
          refine n_then ?_
          refine t_ret ?_
          refine n_retGG (.inl rfl) rfl (by exact rg_row rfl Tryz.underlying29 ti29 rfl rfl (rg_tmp rfl (rg_nil))) (fun w' hw => ?_)
          -- leaf 1
          exact .inl ⟨_, rfl, Jf, _, ⟨hL.trans hJf, some (severalP l), p, lv, hR, by omega, hp.mono hJf, ⟨_, rfl, several_at hvf (hns.mono hJf)⟩, rfl⟩, subC_st hw⟩
      · skip
        have hnl : p.line = [] := List.length_eq_zero_iff.1 (by have h9 := hc2; simp only [decide_eq_false_iff_not] at h9; omega)
        rw [end_nil hnl] at hR
        refine t_skip ?_
        refine n_then ?_
        refine t_seq ?_
        refine t_freezeT (f := ncC) (l := cs) v (fun _ => rfl) (fun Jf hJf hvf => ?_)
        refine t_region ?_
        refine l_q rfl rfl rfl (q_move rfl rfl) ?_
        refine l_q rfl rfl rfl (quiet_call rfl rfl rfl Tryz.func37 (by kernel_rfl) rfl ((fun w hw => several_pure v cs w (by omega) (ones_nth hns) (hvf.mono hw.le)))) ?_
        refine l_e0 rfl rfl ((by first | exact e_store_all rfl ti29 rfl rfl rfl (by first | exact chC_ones _ | exact pcC_ones _ | exact nc0_ones | exact kc_ones slb_one | exact hn18.ones | exact (several_at hvf (hns.mono hJf)).ones | simp [Value.oneCell', str, u8]) rfl | exact e_store_agg rfl ti29 rfl rfl rfl (by first | exact chC_ones _ | exact pcC_ones _ | exact nc0_ones | exact kc_ones slb_one | exact hn18.ones | exact (several_at hvf (hns.mono hJf)).ones | simp [Value.oneCell', str, u8]) rfl)) ?_
        rintro _ _ _ ⟨rfl, rfl⟩
        refine l_heap (H' := row b2 29 (ncC (sevC v cs)) :: _) ?_ (fun _ h => h)
        refine l_q rfl rfl rfl (q_assign rfl rfl) ?_
        refine l_nil ?_
        refine n_then ?_
        refine t_ret ?_
        refine n_retGG (.inl rfl) rfl (by exact rg_row rfl Tryz.underlying29 ti29 rfl rfl (rg_tmp rfl (rg_nil))) (fun w' hw => ?_)
        -- leaf 2
        exact .inl ⟨_, rfl, Jf, _, ⟨hL.trans hJf, some (severalP l), p, lv, hR, by omega, hp.mono hJf, ⟨_, rfl, several_at hvf (hns.mono hJf)⟩, rfl⟩, subC_st hw⟩
end Go.Tri

/-
  The first complete command.
-/
namespace Go.Tri
open Go.Proofs Go.RowKit
def FirstPost (s : List UInt8) (a : Int) (I : Look) (F : List HA) (v : Value) (I' : Look) (H' : List HA) : Prop :=
  Le I I' ∧ F = H' ∧ ∃ c, v = .tuple #[.agg (ncC c).toArray, .bool (firstP' s a).ok, .int .i64 ((firstP' s a).next : Int), .int .i64 ((firstP' s a).place : Int), .int .i64 ((firstP' s a).err : Int)] ∧ NdAt I' (firstP' s a).node c
theorem nd0_at {I : Look} : NdAt I nd0 nc0 := NdAt.kids sl_nilS NdsAt.nil
theorem first_ok {s : List UInt8} {n : Nat} {x : Option Nd} {q : PS} (h1 : s.length ≤ 65536) (h2 : n ≤ s.length) (h : completeP s ⟨[], n⟩ = .ok x q) : firstP' s n = ⟨x.getD nd0, x.isSome, q.next, 0, 0⟩ := by
  unfold firstP'
  rw [if_neg (by omega), if_neg (by omega), Int.toNat_natCast, h]
  cases x <;> rfl
theorem first_bad {s : List UInt8} {n a e : Nat} (h1 : s.length ≤ 65536) (h2 : n ≤ s.length) (h : completeP s ⟨[], n⟩ = .bad a e) : firstP' s n = ⟨nd0, false, 0, a, e⟩ := by
  unfold firstP'
  rw [if_neg (by omega), if_neg (by omega), Int.toNat_natCast, h]
theorem comp_ones {I : Look} {x : Option Nd} {c : NC} (h : match x with | none => c = nc0 | some n => NdAt I n c) : ∀ u ∈ ncC c, u.oneCell' = true := by
  cases x with
  | none => exact h ▸ nc0_ones
  | some n => exact NdAt.ones h
theorem comp_at {I : Look} {x : Option Nd} {c : NC} (h : match x with | none => c = nc0 | some n => NdAt I n c) : NdAt I (x.getD nd0) c := by
  cases x with
  | none => exact h ▸ nd0_at
  | some n => exact h
theorem catch_idle (args : List Value) (ha : args.length = 5) (w : World) :
    CallsDIn (WF none) 0 Tryz.prog 17 args.toArray .returning w (fun e u' w' => e = .returned (.tuple #[]) ∧ u' = .returning ∧ w' = w) := by
  refine callsDIn_of_wpSIn Tryz.func17 rfl trivial fun c₀ cs hu => ?_
  apply wpSIn_seq
  apply wpSIn_region
  simp [wpOpsSIn, go_sem, recoverD, hu, Tryz.ntmps17, Exit.thenS]
  apply wpSIn_seq
  apply wpSIn_region
  simp [wpOpsSIn, go_sem, Exit.thenS, ha]
  refine wpSIn_cond (t := false) (by simp [Act.eval, Array.replicate, ha]) ?_
  simp only [Bool.false_eq_true, if_false]
  refine wpSIn_of_wpIn rfl (wpIn_skip ?_)
  cases c₀
  simp_all [bodyPostS, results, Tryz.results17]
def CatchS (r4 r5 r6 r7 r8 : Nat) (F : List HA) (a e : Nat) (I I' : Look) (H' : List HA) (vs : List Value) : Prop := I' = I ∧ H' = row r4 29 (ncC nc0) :: row r5 4 [.bool false] :: row r6 3 [.int .i64 0] :: row r7 3 [.int .i64 (a : Int)] :: row r8 30 [.int .i64 (e : Int)] :: F ∧ vs = [.agg (ncC nc0).toArray, .bool false, .int .i64 0, .int .i64 (a : Int), .int .i64 (e : Int)]
def CatchP (r4 r5 r6 r7 r8 : Nat) (F : List HA) (a e : Nat) (I : Look) (w0 : World) (e' : Ending) (u' : FrameMode) (w' : World) : Prop := e' = .returned (.tuple #[]) ∧ settle u' = .returning ∧ ∃ I' H' vs, CatchS r4 r5 r6 r7 r8 F a e I I' H' vs ∧ St w0 I' H' w'
theorem stop_ones {a e : Nat} : ∀ u ∈ [Value.int .i64 (a : Int), Value.int .i64 (e : Int)], u.oneCell' = true := fun u hu => by
  simp only [List.mem_cons, List.not_mem_nil, or_false] at hu
  rcases hu with rfl | rfl <;> rfl
set_option maxRecDepth 10000 in
theorem catch_panic (r4 r5 r6 r7 r8 a e : Nat) (w0 w : World) (I : Look) (F : List HA) (hw0 : St w0 I (row r4 29 (ncC nc0) :: row r5 4 [.bool false] :: row r6 3 [.int .i64 0] :: row r7 3 [.int .i64 0] :: row r8 30 [.int .i64 0] :: F) w) : CallsDIn (WF none) 0 Tryz.prog 17 ([pAt r4, pAt r5, pAt r6, pAt r7, pAt r8] : List Value).toArray (.panicking (chn (stopV a e))) w (CatchP r4 r5 r6 r7 r8 F a e I w0) := by
  obtain ⟨args, hargs⟩ : ∃ args : List Value, args = [pAt r4, pAt r5, pAt r6, pAt r7, pAt r8] := ⟨_, rfl⟩
  have ha : args.length = 5 := by rw [hargs]; rfl
  rw [← hargs]
  refine callsDIn_of_wpSIn Tryz.func17 rfl trivial fun c₀ cs hu => ?_
  apply wpSIn_seq
  apply wpSIn_region
  simp [wpOpsSIn, go_sem, recoverD, hu, chn, Tryz.ntmps17, Exit.thenS, ha]
  refine wpSIn_of_wpIn rfl ?_
  refine (?_ : T ⟨Tryz.prog, none, 24, w0⟩ _ ((5, stopV a e) :: zipE 0 args) I (row r4 29 (ncC nc0) :: row r5 4 [.bool false] :: row r6 3 [.int .i64 0] :: row r7 3 [.int .i64 0] :: row r8 30 [.int .i64 0] :: F) [] _) _ _ (sat_rec ha) rfl hw0
  subst hargs
  have herr : ErrIs (stopV a e) true := .inr ⟨rfl, _, _, rfl⟩
  refine t_seq ?_
  refine t_region ?_
  refine l_q rfl rfl rfl (q_move rfl rfl) ?_
  refine l_q rfl rfl rfl (q_neq_inil rfl (by kernel_rfl) rfl (by assumption)) ?_
  refine l_nil ?_
  refine n_then ?_
  refine t_cond rfl (fun hc0 => ?_) (fun hc0 => ?_)
  · skip
    refine t_seq ?_
    refine t_region ?_
    refine l_q rfl rfl rfl (q_move rfl rfl) ?_
    refine l_q rfl rfl rfl (q_assert rfl Tryz.underlying48 rfl rfl) ?_
    refine l_q rfl rfl rfl (q_move rfl rfl) ?_
    refine l_q rfl rfl rfl (q_extract rfl rfl rfl) ?_
    refine l_q rfl rfl rfl (q_extract rfl rfl rfl) ?_
    refine l_e rfl rfl rfl (e_alloc rfl ti48 rfl) ?_
    rintro _ _ _ ⟨b6, rfl, rfl, rfl⟩
    skip
    refine l_e0 rfl rfl ((by first | exact e_store_all rfl ti48 rfl rfl rfl (by first | exact chC_ones _ | exact pcC_ones _ | exact nc0_ones | exact stop_ones | simp [Value.oneCell', str, u8]) rfl | exact e_store_agg rfl ti48 rfl rfl rfl (by first | exact chC_ones _ | exact pcC_ones _ | exact nc0_ones | exact stop_ones | simp [Value.oneCell', str, u8]) rfl)) ?_
    rintro _ _ _ ⟨rfl, rfl⟩
    refine l_heap (H' := row b6 48 [.int .i64 (a : Int), .int .i64 (e : Int)] :: _) ?_ (fun _ h => h)
    refine l_q rfl rfl rfl (q_assign rfl rfl) ?_
    refine l_nil ?_
    refine n_then ?_
    refine t_seq ?_
    refine t_seq ?_
    refine t_region ?_
    refine l_q rfl rfl rfl (q_move rfl rfl) ?_
    refine l_q rfl rfl rfl (q_not rfl rfl) ?_
    refine l_nil ?_
    refine n_then ?_
    refine t_cond rfl (fun hc1 => ?_) (fun hc1 => ?_)
    · skip
      cases hc1
    · skip
      refine t_skip ?_
      refine n_then ?_
      refine t_draw [5, 6, 7, 8, 9] [] [row b6 48 [.int .i64 (a : Int), .int .i64 (e : Int)]] mo (by kernel_rfl) (fun _ _ _ _ _ h => h) ?_
      refine r_q1 0 (by kernel_rfl) rfl (Le.refl _) rfl rfl rfl (q_build (pl := [(_, _), (_, _), (_, _), (_, _), (_, _), (_, _), (_, _)]) (cs := (ncC nc0).toArray) rfl Tryz.underlying29 ti29 ⟨rfl, ⟨_, _, ti3⟩, rfl, ⟨_, _, ti4⟩, rfl, ⟨_, _, ti4⟩, rfl, ⟨_, _, ti9⟩, rfl, ⟨_, _, ti25⟩, rfl, ⟨_, _, ti26⟩, rfl, ⟨_, _, ti27⟩, trivial⟩ rfl rfl) ?_
      refine r_q0 1 (by kernel_rfl) rfl (Le.refl _) rfl rfl rfl (fun _ hI => q_fieldAddr rfl Tryz.underlying48 rfl rfl ti3 rfl rfl) ?_
      refine r_q0 2 (by kernel_rfl) rfl (Le.refl _) rfl rfl rfl (fun _ hI => q_load_row rfl Tryz.underlying3 rfl rfl (by rfl)) ?_
      refine r_q0 3 (by kernel_rfl) rfl (Le.refl _) rfl rfl rfl (fun _ hI => q_fieldAddr rfl Tryz.underlying48 rfl rfl ti30 rfl rfl) ?_
      refine r_q0 4 (by kernel_rfl) rfl (Le.refl _) rfl rfl rfl (fun _ hI => q_load_row rfl Tryz.underlying30 rfl rfl (by rfl)) ?_
      refine r_e0 5 (by kernel_rfl) (by kernel_rfl) rfl (Le.refl _) rfl rfl ((by first | exact e_store_all rfl ti29 rfl rfl rfl (by first | exact chC_ones _ | exact pcC_ones _ | exact nc0_ones | exact stop_ones | simp [Value.oneCell', str, u8]) rfl | exact e_store_agg rfl ti29 rfl rfl rfl (by first | exact chC_ones _ | exact pcC_ones _ | exact nc0_ones | exact stop_ones | simp [Value.oneCell', str, u8]) rfl)) ?_
      rintro _ _ _ ⟨rfl, rfl⟩
      refine ⟨Le.refl _, .inr SubC.sub, ?_⟩
      refine r_e0 6 (by kernel_rfl) (by kernel_rfl) rfl (Le.refl _) rfl rfl (e_storeS rfl ti4 rfl rfl (by first | exact ⟨rfl, rfl⟩ | assumption) rfl (by first | (simp only [List.set_cons_succ, List.set_cons_zero]; rfl) | rfl)) ?_
      rintro _ _ _ ⟨rfl, rfl⟩
      refine ⟨Le.refl _, .inr SubC.sub, ?_⟩
      refine r_e0 7 (by kernel_rfl) (by kernel_rfl) rfl (Le.refl _) rfl rfl (e_storeS rfl ti3 rfl rfl (by first | exact ⟨rfl, rfl⟩ | assumption) rfl (by first | (simp only [List.set_cons_succ, List.set_cons_zero]; rfl) | rfl)) ?_
      rintro _ _ _ ⟨rfl, rfl⟩
      refine ⟨Le.refl _, .inr SubC.sub, ?_⟩
      refine r_e0 8 (by kernel_rfl) (by kernel_rfl) rfl (Le.refl _) rfl rfl (e_storeS rfl ti3 rfl rfl (by first | exact ⟨rfl, rfl⟩ | assumption) rfl (by first | (simp only [List.set_cons_succ, List.set_cons_zero]; rfl) | rfl)) ?_
      rintro _ _ _ ⟨rfl, rfl⟩
      refine ⟨Le.refl _, .inr SubC.sub, ?_⟩
      refine r_e0 9 (by kernel_rfl) (by kernel_rfl) rfl (Le.refl _) rfl rfl (e_storeS rfl ti30 rfl rfl (by first | exact ⟨rfl, rfl⟩ | assumption) rfl (by first | (simp only [List.set_cons_succ, List.set_cons_zero]; rfl) | rfl)) ?_
      rintro _ _ _ ⟨rfl, rfl⟩
      refine ⟨Le.refl _, .inr SubC.sub, ?_⟩
      refine r_end (by kernel_rfl) ?_
      refine fun a1 w1 hs1 hd1 hw => bodyS_of (fn := Tryz.f17) rfl (.inr rfl) hd1 ?_
      -- leaf 0
      exact ⟨rfl, rfl, I, _, _, ⟨rfl, rfl, rfl⟩, subC_st hw⟩
  · skip
    cases hc0
set_option maxRecDepth 10000 in
theorem first_calls (s : List UInt8) (hs : s.length ≤ 1048576) (a : Int) (I : Look) (F : List HA) (w0 w : World) (hG : EnvI I) (hw0 : St w0 I F w) : Calls Tryz.prog 9 (#[str s, .int .i64 a]) w (fun e w' => ∃ v, e = .returned v ∧ ∃ I' H', FirstPost s a I F v I' H' ∧ St w I' H' w') := by
  refine enterM (args := [str s, .int .i64 a]) Tryz.func9 rfl Tryz.ntmps9 rfl (hw0.self) ?_
  refine t_seq ?_
  refine t_region ?_
  refine l_e rfl rfl rfl (e_alloc rfl ti29 rfl) ?_
  rintro _ _ _ ⟨b4, rfl, rfl, rfl⟩
  refine l_heap (H' := row b4 29 (ncC nc0) :: _) ?_ (fun _ h => h)
  refine l_e rfl rfl rfl (e_alloc rfl ti4 rfl) ?_
  rintro _ _ _ ⟨b5, rfl, rfl, rfl⟩
  refine l_e rfl rfl rfl (e_alloc rfl ti3 rfl) ?_
  rintro _ _ _ ⟨b6, rfl, rfl, rfl⟩
  refine l_e rfl rfl rfl (e_alloc rfl ti3 rfl) ?_
  rintro _ _ _ ⟨b7, rfl, rfl, rfl⟩
  refine l_e rfl rfl rfl (e_alloc rfl ti30 rfl) ?_
  rintro _ _ _ ⟨b8, rfl, rfl, rfl⟩
  refine l_nil ?_
  refine n_then ?_
  refine t_seq ?_
  refine t_block ?_
  refine t_seq ?_
  refine t_region ?_
  refine l_q rfl rfl rfl (q_move rfl rfl) ?_
  refine l_q rfl rfl rfl (q_len_str rfl Tryz.underlying9 rfl) ?_
  refine l_q rfl rfl rfl (q_gtr rfl rfl rfl) ?_
  refine l_q rfl rfl rfl (q_assign rfl rfl) ?_
  refine l_nil ?_
  refine n_then ?_
  refine t_cond rfl (fun hc0 => ?_) (fun hc0 => ?_)
  · skip
    have h6 := of_decide_eq_true hc0
    refine t_seq ?_
    refine t_region ?_
    refine l_q rfl rfl rfl (q_build (pl := [(_, _), (_, _), (_, _), (_, _), (_, _), (_, _), (_, _)]) (cs := (ncC nc0).toArray) rfl Tryz.underlying29 ti29 ⟨rfl, ⟨_, _, ti3⟩, rfl, ⟨_, _, ti4⟩, rfl, ⟨_, _, ti4⟩, rfl, ⟨_, _, ti9⟩, rfl, ⟨_, _, ti25⟩, rfl, ⟨_, _, ti26⟩, rfl, ⟨_, _, ti27⟩, trivial⟩ rfl rfl) ?_
    refine l_e0 rfl rfl ((by first | exact e_store_all rfl ti29 rfl rfl rfl (by first | exact chC_ones _ | exact pcC_ones _ | exact nc0_ones | exact comp_ones hc32 | simp [Value.oneCell', str, u8]) rfl | exact e_store_agg rfl ti29 rfl rfl rfl (by first | exact chC_ones _ | exact pcC_ones _ | exact nc0_ones | exact comp_ones hc32 | simp [Value.oneCell', str, u8]) rfl)) ?_
    rintro _ _ _ ⟨rfl, rfl⟩
    refine l_heap (H' := row b4 29 (ncC nc0) :: _) ?_ (fun _ h => h)
    refine l_e0 rfl rfl (e_storeS rfl ti4 rfl rfl (by first | exact ⟨rfl, rfl⟩ | assumption | exact nil_one) rfl (by first | (simp only [List.set_cons_succ, List.set_cons_zero]; rfl) | rfl)) ?_
    rintro _ _ _ ⟨rfl, rfl⟩
    refine l_e0 rfl rfl (e_storeS rfl ti3 rfl rfl (by first | exact ⟨rfl, rfl⟩ | assumption | exact nil_one) rfl (by first | (simp only [List.set_cons_succ, List.set_cons_zero]; rfl) | rfl)) ?_
    rintro _ _ _ ⟨rfl, rfl⟩
    refine l_e0 rfl rfl (e_storeS rfl ti3 rfl rfl (by first | exact ⟨rfl, rfl⟩ | assumption | exact nil_one) rfl (by first | (simp only [List.set_cons_succ, List.set_cons_zero]; rfl) | rfl)) ?_
    rintro _ _ _ ⟨rfl, rfl⟩
    refine l_e0 rfl rfl (e_storeS rfl ti30 rfl rfl (by first | exact ⟨rfl, rfl⟩ | assumption | exact nil_one) rfl (by first | (simp only [List.set_cons_succ, List.set_cons_zero]; rfl) | rfl)) ?_
    rintro _ _ _ ⟨rfl, rfl⟩
    refine l_nil ?_
    refine n_then ?_
    refine t_ret ?_
    refine n_ret_block ?_
    refine n_ret_then ?_
    refine n_retGGM (bs := []) (.inl rfl) rfl (by exact rg_row rfl Tryz.underlying29 ti29 rfl rfl (rg_cell rfl Tryz.underlying4 rfl (by first | exact rd_rowI rfl) (rg_cell rfl Tryz.underlying3 rfl (by first | exact rd_rowI rfl) (rg_cell rfl Tryz.underlying3 rfl (by first | exact rd_rowI rfl) (rg_cell rfl Tryz.underlying30 rfl (by first | exact rd_rowI rfl) (rg_nil)))))) (fun w' hw => ?_)
    -- leaf 0
    have hfb : firstP' s a = ⟨nd0, false, 0, 0, 50⟩ := if_pos (by omega)
    exact ⟨_, rfl, I, _, ⟨Le.refl _, rfl, nc0, by rw [hfb]; rfl, by rw [hfb]; exact nd0_at⟩, subC_st hw⟩
  · skip
    have hs2 : s.length ≤ 65536 := by have := of_decide_eq_false hc0; omega
    refine t_seq ?_
    refine t_qreg ?_
    refine s_q rfl rfl rfl (q_move rfl rfl) ?_
    refine s_q rfl rfl rfl (q_lss rfl rfl rfl) ?_
    refine s_q rfl rfl rfl (q_move rfl rfl) ?_
    refine s_or2 4 2 18 23 22 _ _ rfl rfl rfl rfl rfl rfl (fun h23 => by
        try simp at h23
        refine s_g rfl rfl rfl rfl rfl rfl (q_move rfl rfl) ?_
        refine s_g rfl rfl rfl rfl rfl rfl (q_move rfl rfl) ?_
        refine s_g rfl rfl rfl rfl rfl rfl (q_len_str rfl Tryz.underlying9 rfl) ?_
        refine s_g rfl rfl rfl rfl rfl rfl (q_gtr rfl rfl rfl) ?_
        exact s_val rfl
      ) (wanted_n rfl) rfl rfl rfl ?_
    refine s_q rfl rfl rfl (q_assign rfl rfl) ?_
    refine s_done ?_
    refine n_then ?_
    refine t_cond rfl (fun hc1 => ?_) (fun hc1 => ?_)
    · skip
      have h7 : a < 0 ∨ (s.length : Int) < a := by simpa using hc1
      refine t_seq ?_
      refine t_region ?_
      refine l_q rfl rfl rfl (q_build (pl := [(_, _), (_, _), (_, _), (_, _), (_, _), (_, _), (_, _)]) (cs := (ncC nc0).toArray) rfl Tryz.underlying29 ti29 ⟨rfl, ⟨_, _, ti3⟩, rfl, ⟨_, _, ti4⟩, rfl, ⟨_, _, ti4⟩, rfl, ⟨_, _, ti9⟩, rfl, ⟨_, _, ti25⟩, rfl, ⟨_, _, ti26⟩, rfl, ⟨_, _, ti27⟩, trivial⟩ rfl rfl) ?_
      refine l_e0 rfl rfl ((by first | exact e_store_all rfl ti29 rfl rfl rfl (by first | exact chC_ones _ | exact pcC_ones _ | exact nc0_ones | exact comp_ones hc32 | simp [Value.oneCell', str, u8]) rfl | exact e_store_agg rfl ti29 rfl rfl rfl (by first | exact chC_ones _ | exact pcC_ones _ | exact nc0_ones | exact comp_ones hc32 | simp [Value.oneCell', str, u8]) rfl)) ?_
      rintro _ _ _ ⟨rfl, rfl⟩
      refine l_heap (H' := row b4 29 (ncC nc0) :: _) ?_ (fun _ h => h)
      refine l_e0 rfl rfl (e_storeS rfl ti4 rfl rfl (by first | exact ⟨rfl, rfl⟩ | assumption | exact nil_one) rfl (by first | (simp only [List.set_cons_succ, List.set_cons_zero]; rfl) | rfl)) ?_
      rintro _ _ _ ⟨rfl, rfl⟩
      refine l_e0 rfl rfl (e_storeS rfl ti3 rfl rfl (by first | exact ⟨rfl, rfl⟩ | assumption | exact nil_one) rfl (by first | (simp only [List.set_cons_succ, List.set_cons_zero]; rfl) | rfl)) ?_
      rintro _ _ _ ⟨rfl, rfl⟩
      refine l_e0 rfl rfl (e_storeS rfl ti3 rfl rfl (by first | exact ⟨rfl, rfl⟩ | assumption | exact nil_one) rfl (by first | (simp only [List.set_cons_succ, List.set_cons_zero]; rfl) | rfl)) ?_
      rintro _ _ _ ⟨rfl, rfl⟩
      refine l_e0 rfl rfl (e_storeS rfl ti30 rfl rfl (by first | exact ⟨rfl, rfl⟩ | assumption | exact nil_one) rfl (by first | (simp only [List.set_cons_succ, List.set_cons_zero]; rfl) | rfl)) ?_
      rintro _ _ _ ⟨rfl, rfl⟩
      refine l_nil ?_
      refine n_then ?_
      refine t_ret ?_
      refine n_ret_block ?_
      refine n_ret_then ?_
      refine n_retGGM (bs := []) (.inl rfl) rfl (by exact rg_row rfl Tryz.underlying29 ti29 rfl rfl (rg_cell rfl Tryz.underlying4 rfl (by first | exact rd_rowI rfl) (rg_cell rfl Tryz.underlying3 rfl (by first | exact rd_rowI rfl) (rg_cell rfl Tryz.underlying3 rfl (by first | exact rd_rowI rfl) (rg_cell rfl Tryz.underlying30 rfl (by first | exact rd_rowI rfl) (rg_nil)))))) (fun w' hw => ?_)
      -- leaf 1
      have hfb : firstP' s a = ⟨nd0, false, 0, 0, 73⟩ := by unfold firstP'; rw [if_neg (by omega), if_pos h7]
      exact ⟨_, rfl, I, _, ⟨Le.refl _, rfl, nc0, by rw [hfb]; rfl, by rw [hfb]; exact nd0_at⟩, subC_st hw⟩
    · skip
      have h7 : 0 ≤ a ∧ a ≤ (s.length : Int) := by simpa using hc1
      obtain ⟨n, rfl⟩ : ∃ n : Nat, a = n := ⟨a.toNat, by omega⟩
      have hn : n ≤ s.length := by omega
      have hp0 : PSt s ⟨[], n⟩ nilS' I := ⟨⟨hn, fun t h => (by cases h), Nat.zero_le _⟩, hG, sl_nilS⟩
      refine t_skip ?_
      refine n_block ?_
      refine n_then ?_
      refine t_seq ?_
      refine t_region ?_
      refine l_q rfl rfl rfl (q_makeFunc rfl rfl rfl) ?_
      refine l_defer rfl rfl rfl rfl rfl ?_
      refine l_nil ?_
      refine n_then ?_
      refine t_seq ?_
      refine t_region ?_
      refine l_q rfl rfl rfl (q_move rfl rfl) ?_
      refine l_q rfl rfl rfl (q_move rfl rfl) ?_
      refine l_q rfl rfl rfl (q_build (pl := [(_, _), (_, _), (_, _)]) (cs := (prC s nilS' n).toArray) rfl Tryz.underlying53 ti53 ⟨rfl, ⟨_, _, ti9⟩, rfl, ⟨_, _, ti51⟩, rfl, ⟨_, _, ti3⟩, trivial⟩ rfl rfl) ?_
      refine l_e rfl rfl rfl (e_box rfl rfl rfl) ?_
      rintro _ _ _ ⟨b29, rfl, rfl, rfl⟩
      refine l_heap (H' := row b29 53 (prC s nilS' n) :: _) ?_ (fun _ h => h)
      refine l_q rfl rfl rfl (q_assign rfl rfl) ?_
      refine l_nil ?_
      refine n_then ?_
      refine t_seq ?_
      refine t_region ?_
      refine l_q rfl rfl rfl (q_move rfl rfl) ?_
      refine l_eP rfl rfl rfl (eff_callP rfl rfl rfl Tryz.func18 (by kernel_rfl) rfl (fun w hw => complete_calls b29 s hs2 ⟨[], n⟩ nilS' _ _ _ w _ rfl hp0 (picks_st1 (row b29 53 (prC s nilS' n)) hw))) ?_ ?_
      · skip
        rintro _ Jx _ ⟨hJx, rfl, ax, ex, hbx, rfl⟩
        refine np_then (?_)
        refine np_D (f := 17) (fn := Tryz.f9) (ca := [pAt b4, pAt b5, pAt b6, pAt b7, pAt b8]) (S := CatchS b4 b5 b6 b7 b8 F ax ex Jx) rfl Tryz.func17 (by kernel_rfl) rfl (fun w hw => catch_panic b4 b5 b6 b7 b8 ax ex _ w _ F (subC_st hw)) ?_ ?_
        · rintro I' H' vs ⟨rfl, rfl, rfl⟩
          exact rg_row rfl Tryz.underlying29 ti29 rfl rfl (rg_cell rfl Tryz.underlying4 rfl (rd_rowI rfl) (rg_cell rfl Tryz.underlying3 rfl (rd_rowI rfl) (rg_cell rfl Tryz.underlying3 rfl (rd_rowI rfl) (rg_cell rfl Tryz.underlying30 rfl (rd_rowI rfl) rg_nil))))
        · rintro I' H' vs w ⟨rfl, rfl, rfl⟩ hw
          have hfb := first_bad hs2 hn hbx
          exact ⟨_, rfl, _, _, ⟨hJx, rfl, nc0, by rw [hfb]; rfl, by rw [hfb]; exact nd0_at⟩, subC_st hw⟩
      rintro v32 J _ ⟨hJ, x32, p, lv, he32, hmu32, hp, ⟨c32, rfl, hc32⟩, rfl⟩
      refine l_q rfl rfl rfl (q_move rfl rfl) ?_
      refine l_q rfl rfl rfl (q_extract rfl rfl rfl) ?_
      refine l_q rfl rfl rfl (q_extract rfl rfl rfl) ?_
      refine l_e0 rfl rfl ((by first | exact e_store_all rfl ti29 rfl rfl rfl (by first | exact chC_ones _ | exact pcC_ones _ | exact nc0_ones | exact comp_ones hc32 | simp [Value.oneCell', str, u8]) rfl | exact e_store_agg rfl ti29 rfl rfl rfl (by first | exact chC_ones _ | exact pcC_ones _ | exact nc0_ones | exact comp_ones hc32 | simp [Value.oneCell', str, u8]) rfl)) ?_
      rintro _ _ _ ⟨rfl, rfl⟩
      refine l_heap (H' := row b4 29 (ncC c32) :: _) ?_ (fun _ h => h)
      refine l_e0 rfl rfl (e_storeS rfl ti4 rfl rfl (by first | exact ⟨rfl, rfl⟩ | assumption | exact nil_one) rfl (by first | (simp only [List.set_cons_succ, List.set_cons_zero]; rfl) | rfl)) ?_
      rintro _ _ _ ⟨rfl, rfl⟩
      refine l_heap (H' := row b5 4 [.bool x32.isSome] :: _) ?_ (fun _ h => h)
      refine l_nil ?_
      refine n_then ?_
      refine t_seq ?_
      refine t_npt ?_
      refine t_draw [6, 7, 8, 9, 10] [] [row b4 29 (ncC c32), row b5 4 [.bool x32.isSome], row b29 53 (prC s lv p.next)] mo (by kernel_rfl) (fun _ _ _ _ _ h => h) ?_
      refine r_q1 0 (by kernel_rfl) rfl (Le.refl _) rfl rfl rfl (q_load_rowA rfl Tryz.underlying29 ti29 rfl rfl rfl) ?_
      rw [show List.take 7 (List.drop 0 (ncC c32)) = ncC c32 from rfl]
      refine r_q0 1 (by kernel_rfl) rfl (Le.refl _) rfl rfl rfl (fun _ hI => q_load_row rfl Tryz.underlying4 rfl rfl (by rfl)) ?_
      refine r_q0 2 (by kernel_rfl) rfl (Le.refl _) rfl rfl rfl (fun _ hI => q_move rfl rfl) ?_
      refine r_q0 3 (by kernel_rfl) rfl (Le.refl _) rfl rfl rfl (fun _ hI => q_nilCheck rfl rfl) ?_
      refine r_q0 4 (by kernel_rfl) rfl (Le.refl _) rfl rfl rfl (fun _ hI => q_fieldAddr rfl Tryz.underlying53 rfl rfl ti3 rfl rfl) ?_
      refine r_q0 5 (by kernel_rfl) rfl (Le.refl _) rfl rfl rfl (fun _ hI => q_load_row rfl Tryz.underlying3 rfl rfl (by rfl)) ?_
      refine r_e0 6 (by kernel_rfl) (by kernel_rfl) rfl (Le.refl _) rfl rfl ((by first | exact e_store_all rfl ti29 rfl rfl rfl (by first | exact chC_ones _ | exact pcC_ones _ | exact nc0_ones | exact comp_ones hc32 | simp [Value.oneCell', str, u8]) rfl | exact e_store_agg rfl ti29 rfl rfl rfl (by first | exact chC_ones _ | exact pcC_ones _ | exact nc0_ones | exact comp_ones hc32 | simp [Value.oneCell', str, u8]) rfl)) ?_
      rintro _ _ _ ⟨rfl, rfl⟩
      refine ⟨Le.refl _, .inr SubC.sub, ?_⟩
      refine r_e0 7 (by kernel_rfl) (by kernel_rfl) rfl (Le.refl _) rfl rfl (e_storeS rfl ti4 rfl rfl (by first | exact ⟨rfl, rfl⟩ | assumption | exact nil_one) rfl (by first | (simp only [List.set_cons_succ, List.set_cons_zero]; rfl) | rfl)) ?_
      rintro _ _ _ ⟨rfl, rfl⟩
      refine ⟨Le.refl _, .inr SubC.sub, ?_⟩
      refine r_e0 8 (by kernel_rfl) (by kernel_rfl) rfl (Le.refl _) rfl rfl (e_storeS rfl ti3 rfl rfl (by first | exact ⟨rfl, rfl⟩ | assumption | exact nil_one) rfl (by first | (simp only [List.set_cons_succ, List.set_cons_zero]; rfl) | rfl)) ?_
      rintro _ _ _ ⟨rfl, rfl⟩
      refine ⟨Le.refl _, .inr SubC.sub, ?_⟩
      refine r_e0 9 (by kernel_rfl) (by kernel_rfl) rfl (Le.refl _) rfl rfl (e_storeS rfl ti3 rfl rfl (by first | exact ⟨rfl, rfl⟩ | assumption | exact nil_one) rfl (by first | (simp only [List.set_cons_succ, List.set_cons_zero]; rfl) | rfl)) ?_
      rintro _ _ _ ⟨rfl, rfl⟩
      refine ⟨Le.refl _, .inr SubC.sub, ?_⟩
      refine r_e0 10 (by kernel_rfl) (by kernel_rfl) rfl (Le.refl _) rfl rfl (e_storeS rfl ti30 rfl rfl (by first | exact ⟨rfl, rfl⟩ | assumption | exact nil_one) rfl (by first | (simp only [List.set_cons_succ, List.set_cons_zero]; rfl) | rfl)) ?_
      rintro _ _ _ ⟨rfl, rfl⟩
      refine ⟨Le.refl _, .inr SubC.sub, ?_⟩
      refine r_end (by kernel_rfl) ?_
      refine n_then ?_
      refine t_ret ?_
      refine n_retD (.inl rfl) rfl Tryz.func17 (by kernel_rfl) rfl (f := 17) (ca := [pAt b4, pAt b5, pAt b6, pAt b7, pAt b8]) (fun w => catch_idle _ rfl w) (by exact rg_row rfl Tryz.underlying29 ti29 rfl rfl (rg_cell rfl Tryz.underlying4 rfl (by first | exact rd_rowI rfl) (rg_cell rfl Tryz.underlying3 rfl (by first | exact rd_rowI rfl) (rg_cell rfl Tryz.underlying3 rfl (by first | exact rd_rowI rfl) (rg_cell rfl Tryz.underlying30 rfl (by first | exact rd_rowI rfl) (rg_nil)))))) (fun w' hw => ?_)
      -- leaf 2
      have hfb := first_ok hs2 hn he32
      exact ⟨_, rfl, J, _, ⟨hJ, rfl, c32, by rw [hfb]; rfl, by rw [hfb]; exact comp_at hc32⟩, subC_st hw⟩
end Go.Tri
