/-
  The parser: if, functions.
-/
import Derived.Test.YtomcodpgickmgaaGreatDoorQC7
namespace Go.Tri
open Go.Proofs Go.RowKit
theorem fn_bad {s : List UInt8} {p : PS} {a e : Nat} (n : Nat) (h : nowP s p = .bad a e) : (lvC s n).2 p = .bad a e := by
  cases n with
  | zero =>
    show nestP s p = _
    unfold nestP
    rw [bnd_bad h]
  | succ m => exact comp_bad h
theorem fn_nest {s : List UInt8} {p q : PS} {t : Tok} {n : Nat} (hn : n = 0) (h : nowP s p = .ok t q) : (lvC s n).2 p = .bad t.pos 52 := by
  subst hn
  show nestP s p = _
  unfold nestP
  rw [bnd_ok h]
set_option maxRecDepth 10000 in
theorem ifs_calls (b : Nat) (s : List UInt8) (hs : s.length ≤ 65536) (B : PS → ReR Nd) (d : Nat) (hd : d ≤ 24) (hB : ParC 158 b s [.int .i64 ((d : Int) + 1)] B NdV 1) : ParC 161 b s [.int .i64 (d : Int)] (ifP s B) NdV 1 := by
  intro p lv I F w0 w R hR hp hw0
  have hL := Le.refl I
  obtain ⟨M, hM⟩ : ∃ M, M = muP s p := ⟨_, rfl⟩
  unfold ifP at hR
  have hm2 := mu_le hp.1
  rw [bnd_v] at hR
  refine enter Tryz.func161 rfl Tryz.ntmps161 rfl (hw0.self) ?_
  refine t_seq ?_
  refine t_region ?_
  refine l_e rfl rfl rfl (e_alloc rfl ti29 rfl) ?_
  rintro _ _ _ ⟨b4, rfl, rfl, rfl⟩
  refine l_heap (H' := row b4 29 (ncC nc0) :: _) ?_ (fun _ h => h)
  refine l_nil ?_
  refine n_then ?_
  refine t_seq ?_
  refine t_region ?_
  refine l_q rfl rfl rfl (q_build (pl := [(_, _), (_, _), (_, _), (_, _), (_, _), (_, _), (_, _)]) (cs := (ncC ⟨9, false, false, [], nilS', nilS', nilS'⟩).toArray) rfl Tryz.underlying29 ti29 ⟨rfl, ⟨_, _, ti3⟩, rfl, ⟨_, _, ti4⟩, rfl, ⟨_, _, ti4⟩, rfl, ⟨_, _, ti9⟩, rfl, ⟨_, _, ti25⟩, rfl, ⟨_, _, ti26⟩, rfl, ⟨_, _, ti27⟩, trivial⟩ rfl rfl) ?_
  refine l_e rfl rfl rfl (e_alloc rfl ti29 rfl) ?_
  rintro _ _ _ ⟨b5, rfl, rfl, rfl⟩
  refine l_e0 rfl rfl ((by first | exact e_store_all rfl ti29 rfl rfl rfl (by first | exact chC_ones _ | exact pcC_ones _ | exact nc0_ones | exact kc_ones slb_one | exact kc_ones nil_one | exact hnf.ones | simp [Value.oneCell', str, u8]) rfl | exact e_store_agg rfl ti29 rfl rfl rfl (by first | exact chC_ones _ | exact pcC_ones _ | exact nc0_ones | exact kc_ones slb_one | exact kc_ones nil_one | exact hnf.ones | simp [Value.oneCell', str, u8]) rfl)) ?_
  rintro _ _ _ ⟨rfl, rfl⟩
  refine l_heap (H' := row b5 29 (ncC ⟨9, false, false, [], nilS', nilS', nilS'⟩) :: _) ?_ (fun _ h => h)
  refine l_nil ?_
  refine n_then ?_
  refine t_seq ?_
  refine t_seq ?_
  refine t_region ?_
  refine l_q rfl rfl rfl (q_assign rfl rfl) ?_
  refine l_nil ?_
  refine n_then ?_
  refine t_block ?_
  refine t_loopE (ι := PS × Value × Look × Value × List NC × List Nd × Nat × Bool) (fun zz => Le I zz.2.2.1 ∧ PSt s zz.1 zz.2.1 zz.2.2.1 ∧ NdsAt zz.2.2.1 zz.2.2.2.2.2.1 zz.2.2.2.2.1 ∧ muP s zz.1 + zz.2.2.2.2.2.1.length ≤ M ∧ (zz.2.2.2.2.2.2.2 = true → muP s zz.1 < zz.2.2.2.2.2.2.1 ∧ R = bndV (ifN s B zz.2.2.2.2.2.2.1 zz.2.2.2.2.2.1 zz.1) (ifK s B)) ∧ (zz.2.2.2.2.2.2.2 = false → R = bndV (ReR.ok zz.2.2.2.2.2.1 zz.1) (ifK s B) ∧ Filled s zz.1)) (fun zz => (if zz.2.2.2.2.2.2.2 then muP s zz.1 + 1 else 0)) (fun zz => [(6, .bool zz.2.2.2.2.2.2.2)]) [(0, _), (1, _), (4, _), (5, _)] (fun zz => zz.2.2.1) (fun zz => (tvec 29 7 ncC zz.2.2.2.1 zz.2.2.2.2.1 :: row b5 29 (ncC ⟨9, false, false, [], nilS', nilS', zz.2.2.2.1⟩) :: row b4 29 (ncC nc0) :: row b 53 (prC s zz.2.1 zz.1.next) :: F)) (p, lv, I, nilS', [], [], muP s p + 1, true) ?_ (sub_cons rfl sub_nil) (sub_cons rfl (sub_cons rfl (sub_cons rfl (sub_cons rfl sub_nil)))) (fun _ h => by dsimp only; exact subC_st (st_nilT 29 7 ncC h)) ?_
  · try dsimp only
    exact ⟨hL, hp, NdsAt.nil, by simp only [List.length_nil]; omega, fun _ => ⟨Nat.lt_succ_self _, hR⟩, fun h => by cases h⟩
  rintro ⟨p, lv, J, v, cs, l, g, mo⟩ ⟨hL, hp, hns, hmu, hmt, hmf⟩
  try dsimp only at *
  have hcl := hns.len
  refine t_seq ?_
  refine t_seq ?_
  refine t_region ?_
  refine l_q rfl rfl rfl (q_move rfl rfl) ?_
  refine l_nil ?_
  refine n_then ?_
  refine t_cond rfl (fun hc0 => ?_) (fun hc0 => ?_)
  · skip
    subst hc0
    obtain ⟨hg, hR⟩ := hmt rfl
    obtain ⟨g, rfl⟩ : ∃ g', g = g' + 1 := ⟨g - 1, by omega⟩
    rw [ifN] at hR
    refine t_skip ?_
    refine n_then ?_
    refine t_seq ?_
    refine t_block ?_
    refine t_seq ?_
    refine t_region ?_
    refine l_q rfl rfl rfl (q_move rfl rfl) ?_
    refine l_eP rfl rfl rfl (eff_callP rfl rfl rfl Tryz.func36 (by kernel_rfl) rfl (fun w hw => step_calls b s hs p lv _ _ _ w _ rfl hp (picks_st1 (row b 53 (prC s lv p.next)) hw))) ?_ ?_
    · skip
      rintro _ Jx _ ⟨hJx, rfl, ax, ex, hbx, rfl⟩
      rw [bnd_bad hbx] at hR
      refine np_then (np_block (np_then (np_then (np_block (np_then (?_))))))
      exact np_body fun w hw => .inr ⟨_, rfl, Jx, _, ⟨hL.trans hJx, rfl, ax, ex, hR, rfl⟩, subC_st hw⟩
    rintro v12 J _ ⟨hJ, x12, p, lv, he12, hmu12, hp, rfl, rfl⟩
    have hL := hL.trans hJ
    rw [bnd_ok he12] at hR
    have hns := hns.mono hJ
    refine l_nil ?_
    refine n_then ?_
    refine t_seq ?_
    refine t_draw [5, 6, 7, 9] [9] [row b5 29 (ncC ⟨9, false, false, [], nilS', nilS', v⟩)] mo (by kernel_rfl) (fun _ _ _ _ _ h => h) ?_
    refine r_q0 0 (by kernel_rfl) rfl (Le.refl _) rfl rfl rfl (fun _ hI => q_fieldAddr rfl Tryz.underlying29 rfl rfl ti27 rfl rfl) ?_
    refine r_q0 1 (by kernel_rfl) rfl (Le.refl _) rfl rfl rfl (fun _ hI => q_load_row rfl Tryz.underlying27 rfl rfl (by rfl)) ?_
    refine r_q1 2 (by kernel_rfl) rfl (Le.refl _) rfl rfl rfl (q_move rfl rfl) ?_
    refine r_q1 3 (by kernel_rfl) rfl (Le.refl _) rfl rfl rfl (q_move rfl rfl) ?_
    refine r_q1 4 (by kernel_rfl) rfl (Le.refl _) rfl rfl rfl (q_add64 rfl rfl rfl (by omega)) ?_
    refine r_eP 5 (by kernel_rfl) (by kernel_rfl) rfl (Le.refl _) rfl rfl rfl (eff_callP rfl rfl rfl Tryz.func158 (by kernel_rfl) rfl (fun w hw => hB p lv _ _ _ w _ rfl hp (picks_st1 (row b 53 (prC s lv p.next)) hw))) ?_ ?_
    · skip
      rintro _ Jx _ ⟨hJx, rfl, ax, ex, hbx, rfl⟩
      rw [bnd_bad hbx] at hR
      refine np_then (np_block (np_then (np_then (np_block (np_then (?_))))))
      exact np_body fun w hw => .inr ⟨_, rfl, Jx, _, ⟨hL.trans hJx, rfl, ax, ex, hR, rfl⟩, subC_st hw⟩
    rintro v18 J _ ⟨hJ, x18, p, lv, he18, hmu18, hp, ⟨c18, rfl, hn18⟩, rfl⟩
    refine ⟨hJ, .inr SubC.sub, ?_⟩
    have hL := hL.trans hJ
    rw [bnd_ok he18] at hR
    have hns := NdsAt.snoc hn18 (hns.mono hJ)
    have hcl1 : (cs ++ [c18]).length = cs.length + 1 := by simp
    refine r_e 6 (by kernel_rfl) (by kernel_rfl) rfl (hJ) rfl rfl rfl (e_buildSlice1 rfl Tryz.underlying27 ti29 rfl rfl rfl (by first | exact One.cells (by assumption) | exact One.cells hone | rfl) rfl) ?_
    rintro _ _ _ ⟨b19, rfl, rfl, rfl⟩
    refine ⟨Le.refl _, .inr SubC.sub, ?_⟩
    refine r_e 7 (by kernel_rfl) (by kernel_rfl) rfl (hJ) rfl rfl rfl (e_appendT (f := ncC) (c := c18) rfl Tryz.underlying27 ti29 rfl rfl rfl rfl rfl rfl rfl (by first | exact hn18.ones | exact hn29.ones | exact hn42.ones | exact byC_ones _ | exact chC_ones _ | exact pcC_ones _ | simp [Value.oneCell', str, u8] | exact ones1 (by assumption)) (by simp only [maxLen]; omega) (by omega)) ?_
    rintro v20 _ _ ⟨rfl, rfl⟩
    refine ⟨Le.refl _, .inr SubC.sub, ?_⟩
    refine r_one v20 (fun hone => ?_)
    refine r_q0 8 (by kernel_rfl) rfl (hJ) rfl rfl rfl (fun _ hI => q_fieldAddr rfl Tryz.underlying29 rfl rfl ti27 rfl rfl) ?_
    refine r_e0 9 (by kernel_rfl) (by kernel_rfl) rfl (hJ) rfl rfl (e_storeS rfl ti27 rfl rfl (by first | exact ⟨rfl, rfl⟩ | assumption | exact hone) rfl (by first | (simp only [List.set_cons_succ, List.set_cons_zero]; rfl) | rfl)) ?_
    rintro _ _ _ ⟨rfl, rfl⟩
    refine ⟨Le.refl _, .inl rfl, ?_⟩
    refine r_heap (H' := row b5 29 (ncC ⟨9, false, false, [], nilS', nilS', v20⟩) :: _) ?_ (fun _ h => h)
    refine r_end (by kernel_rfl) ?_
    refine n_then ?_
    refine t_seq ?_
    refine t_region ?_
    refine l_q rfl rfl rfl (q_move rfl rfl) ?_
    refine l_eP rfl rfl rfl (eff_callP rfl rfl rfl Tryz.func160 (by kernel_rfl) rfl (fun w hw => needKey_calls b s hs [116, 104, 101, 110] p lv _ _ _ w _ rfl hp (picks_st1 (row b 53 (prC s lv p.next)) hw))) ?_ ?_
    · skip
      rintro _ Jx _ ⟨hJx, rfl, ax, ex, hbx, rfl⟩
      rw [bnd_bad hbx] at hR
      refine np_then (np_block (np_then (np_then (np_block (np_then (?_))))))
      exact np_body fun w hw => .inr ⟨_, rfl, Jx, _, ⟨hL.trans hJx, rfl, ax, ex, hR, rfl⟩, subC_st hw⟩
    rintro v23 J _ ⟨hJ, x23, p, lv, he23, hmu23, hp, rfl, rfl⟩
    have hL := hL.trans hJ
    rw [bnd_ok he23] at hR
    have hns := hns.mono hJ
    refine l_nil ?_
    refine n_then ?_
    refine t_draw [5, 6, 7, 9] [9] [row b5 29 (ncC ⟨9, false, false, [], nilS', nilS', v20⟩)] mo (by kernel_rfl) (fun _ _ _ _ _ h => h) ?_
    refine r_q0 0 (by kernel_rfl) rfl (Le.refl _) rfl rfl rfl (fun _ hI => q_fieldAddr rfl Tryz.underlying29 rfl rfl ti27 rfl rfl) ?_
    refine r_q0 1 (by kernel_rfl) rfl (Le.refl _) rfl rfl rfl (fun _ hI => q_load_row rfl Tryz.underlying27 rfl rfl (by rfl)) ?_
    refine r_q1 2 (by kernel_rfl) rfl (Le.refl _) rfl rfl rfl (q_move rfl rfl) ?_
    refine r_q1 3 (by kernel_rfl) rfl (Le.refl _) rfl rfl rfl (q_move rfl rfl) ?_
    refine r_q1 4 (by kernel_rfl) rfl (Le.refl _) rfl rfl rfl (q_add64 rfl rfl rfl (by omega)) ?_
    refine r_eP 5 (by kernel_rfl) (by kernel_rfl) rfl (Le.refl _) rfl rfl rfl (eff_callP rfl rfl rfl Tryz.func158 (by kernel_rfl) rfl (fun w hw => hB p lv _ _ _ w _ rfl hp (picks_st1 (row b 53 (prC s lv p.next)) hw))) ?_ ?_
    · skip
      rintro _ Jx _ ⟨hJx, rfl, ax, ex, hbx, rfl⟩
      rw [bnd_bad hbx] at hR
      refine np_block (np_then (np_then (np_block (np_then (?_)))))
      exact np_body fun w hw => .inr ⟨_, rfl, Jx, _, ⟨hL.trans hJx, rfl, ax, ex, hR, rfl⟩, subC_st hw⟩
    rintro v29 J _ ⟨hJ, x29, p, lv, he29, hmu29, hp, ⟨c29, rfl, hn29⟩, rfl⟩
    refine ⟨hJ, .inr SubC.sub, ?_⟩
    have hL := hL.trans hJ
    rw [bnd_ok he29] at hR
    have hns := NdsAt.snoc hn29 (hns.mono hJ)
    refine r_e 6 (by kernel_rfl) (by kernel_rfl) rfl (hJ) rfl rfl rfl (e_buildSlice1 rfl Tryz.underlying27 ti29 rfl rfl rfl (by first | exact One.cells (by assumption) | exact One.cells hone | rfl) rfl) ?_
    rintro _ _ _ ⟨b30, rfl, rfl, rfl⟩
    refine ⟨Le.refl _, .inr SubC.sub, ?_⟩
    refine r_e 7 (by kernel_rfl) (by kernel_rfl) rfl (hJ) rfl rfl rfl (e_appendT (f := ncC) (c := c29) rfl Tryz.underlying27 ti29 rfl rfl rfl rfl rfl rfl rfl (by first | exact hn18.ones | exact hn29.ones | exact hn42.ones | exact byC_ones _ | exact chC_ones _ | exact pcC_ones _ | simp [Value.oneCell', str, u8] | exact ones1 (by assumption)) (by simp only [maxLen]; omega) (by omega)) ?_
    rintro v31 _ _ ⟨rfl, rfl⟩
    refine ⟨Le.refl _, .inr SubC.sub, ?_⟩
    refine r_one v31 (fun hone => ?_)
    refine r_q0 8 (by kernel_rfl) rfl (hJ) rfl rfl rfl (fun _ hI => q_fieldAddr rfl Tryz.underlying29 rfl rfl ti27 rfl rfl) ?_
    refine r_e0 9 (by kernel_rfl) (by kernel_rfl) rfl (hJ) rfl rfl (e_storeS rfl ti27 rfl rfl (by first | exact ⟨rfl, rfl⟩ | assumption | exact hone) rfl (by first | (simp only [List.set_cons_succ, List.set_cons_zero]; rfl) | rfl)) ?_
    rintro _ _ _ ⟨rfl, rfl⟩
    refine ⟨Le.refl _, .inl rfl, ?_⟩
    refine r_heap (H' := row b5 29 (ncC ⟨9, false, false, [], nilS', nilS', v31⟩) :: _) ?_ (fun _ h => h)
    refine r_end (by kernel_rfl) ?_
    refine n_block ?_
    refine n_then ?_
    refine t_region ?_
    refine l_q rfl rfl rfl (q_move rfl rfl) ?_
    refine l_eP rfl rfl rfl (eff_callP rfl rfl rfl Tryz.func108 (by kernel_rfl) rfl (fun w hw => key_calls b s hs [101, 108, 105, 102] p lv _ _ _ w _ rfl hp (picks_st1 (row b 53 (prC s lv p.next)) hw))) ?_ ?_
    · skip
      rintro _ Jx _ ⟨hJx, rfl, ax, ex, hbx, rfl⟩
      rw [bnd_bad hbx] at hR
      refine np_then (np_block (np_then (?_)))
      exact np_body fun w hw => .inr ⟨_, rfl, Jx, _, ⟨hL.trans hJx, rfl, ax, ex, hR, rfl⟩, subC_st hw⟩
    rintro v10 J _ ⟨hJ, x10, p, lv, he10, hmu10, hp, ⟨rfl, hf, rfl⟩, rfl⟩
    have hL := hL.trans hJ
    rw [bnd_ok he10] at hR
    have hns := hns.mono hJ
    refine l_q rfl rfl rfl (q_assign rfl rfl) ?_
    refine l_nil ?_
    refine n_roundE ((p, lv, J, v31, cs ++ [c18] ++ [c29], l ++ [x18] ++ [x29], g, keyB [101, 108, 105, 102] (headT s p))) ?_ ?_ (sub_cons rfl sub_nil) (sub_cons rfl (sub_cons rfl (sub_cons rfl (sub_cons rfl sub_nil)))) (fun _ h => by try dsimp only; exact subC_st h)
    · try dsimp only
      rw [List.append_assoc] at hns
      have hls : (l ++ [x18] ++ [x29]).length = l.length + 2 := by simp
      refine ⟨hL, hp, by rw [List.append_assoc]; exact hns, by omega, fun h => ⟨by omega, ?_⟩, fun h => ⟨?_, hf⟩⟩
      · rw [hR, if_pos h, List.append_assoc]; rfl
      · rw [hR, if_neg (by rw [h]; simp), List.append_assoc]; rfl
    · try dsimp only
      rw [if_pos rfl]
      split <;> omega
  · skip
    subst hc0
    obtain ⟨hR, hf⟩ := hmf rfl
    rw [show bndV (ReR.ok l p) (ifK s B) = ifK s B l p from rfl, ifK, bnd_ok (now_filled hf)] at hR
    refine t_exit ?_
    refine n_exit_then ?_
    refine n_exit_then ?_
    refine n_exit_block ?_
    refine n_then ?_
    refine t_cutE (ι := PS × Value × Look × Value × List NC × List Nd) (fun zz => Le I zz.2.2.1 ∧ PSt s zz.1 zz.2.1 zz.2.2.1 ∧ NdsAt zz.2.2.1 zz.2.2.2.2.2 zz.2.2.2.2.1 ∧ muP s zz.1 + zz.2.2.2.2.2.length ≤ M ∧ R = bnd (needP s (keyB [102, 105])) (fun _ q => .ok (ndK 9 zz.2.2.2.2.2) q) zz.1) (fun zz => []) [(0, _), (1, _), (4, _), (5, _), (8, _)] (fun zz => zz.2.2.1) (fun zz => (tvec 29 7 ncC zz.2.2.2.1 zz.2.2.2.2.1 :: row b5 29 (ncC ⟨9, false, false, [], nilS', nilS', zz.2.2.2.1⟩) :: row b4 29 (ncC nc0) :: row b 53 (prC s zz.2.1 zz.1.next) :: F)) (sub_cons rfl (sub_cons rfl (sub_cons rfl (sub_cons rfl (sub_cons rfl sub_nil))))) ?_ ?_
    · skip
      refine t_seq ?_
      refine t_region ?_
      refine l_q rfl rfl rfl (q_move rfl rfl) ?_
      refine l_q rfl rfl rfl (quiet_call rfl rfl rfl Tryz.func108 (by kernel_rfl) rfl ((fun w hw => keyF_pure b s [101, 108, 115, 101] p lv w hs hf hp.1 (rowI_of hw) (hp.2.2.mono hw.le)))) ?_
      refine l_nil ?_
      refine n_then ?_
      refine t_cond rfl (fun hc1 => ?_) (fun hc1 => ?_)
      · skip
        have q2 : keyB [101, 108, 115, 101] (headT s p) = true := hc1
        rw [if_pos q2] at hR
        refine t_seq ?_
        refine t_region ?_
        refine l_q rfl rfl rfl (q_move rfl rfl) ?_
        refine l_e rfl rfl rfl (eff_call rfl rfl rfl Tryz.func36 (by kernel_rfl) rfl (fun w hw => stepF_calls b s hs p lv _ _ _ w hf hp (picks_st1 (row b 53 (prC s lv p.next)) hw))) ?_
        rintro _ J _ ⟨hJ, rfl, p, lv, hst36, hma36, hmb36, hp, rfl⟩
        have hL := hL.trans hJ
        rw [← hst36] at hR
        have hmb := hmb36 (keyB_kind q2)
        have hns := hns.mono hJ
        refine l_nil ?_
        refine n_then ?_
        refine t_draw [5, 6, 7, 9] [9] [row b5 29 (ncC ⟨9, false, false, [], nilS', nilS', v⟩)] mo (by kernel_rfl) (fun _ _ _ _ _ h => h) ?_
        refine r_q0 0 (by kernel_rfl) rfl (Le.refl _) rfl rfl rfl (fun _ hI => q_fieldAddr rfl Tryz.underlying29 rfl rfl ti27 rfl rfl) ?_
        refine r_q0 1 (by kernel_rfl) rfl (Le.refl _) rfl rfl rfl (fun _ hI => q_load_row rfl Tryz.underlying27 rfl rfl (by rfl)) ?_
        refine r_q1 2 (by kernel_rfl) rfl (Le.refl _) rfl rfl rfl (q_move rfl rfl) ?_
        refine r_q1 3 (by kernel_rfl) rfl (Le.refl _) rfl rfl rfl (q_move rfl rfl) ?_
        refine r_q1 4 (by kernel_rfl) rfl (Le.refl _) rfl rfl rfl (q_add64 rfl rfl rfl (by omega)) ?_
        refine r_eP 5 (by kernel_rfl) (by kernel_rfl) rfl (Le.refl _) rfl rfl rfl (eff_callP rfl rfl rfl Tryz.func158 (by kernel_rfl) rfl (fun w hw => hB p lv _ _ _ w _ rfl hp (picks_st1 (row b 53 (prC s lv p.next)) hw))) ?_ ?_
        · skip
          rintro _ Jx _ ⟨hJx, rfl, ax, ex, hbx, rfl⟩
          rw [bnd_bad hbx] at hR
          refine np_then (?_)
          exact np_body fun w hw => .inr ⟨_, rfl, Jx, _, ⟨hL.trans hJx, rfl, ax, ex, hR, rfl⟩, subC_st hw⟩
        rintro v42 J _ ⟨hJ, x42, p, lv, he42, hmu42, hp, ⟨c42, rfl, hn42⟩, rfl⟩
        refine ⟨hJ, .inr SubC.sub, ?_⟩
        have hL := hL.trans hJ
        rw [bnd_ok he42] at hR
        have hns := NdsAt.snoc hn42 (hns.mono hJ)
        refine r_e 6 (by kernel_rfl) (by kernel_rfl) rfl (hJ) rfl rfl rfl (e_buildSlice1 rfl Tryz.underlying27 ti29 rfl rfl rfl (by first | exact One.cells (by assumption) | exact One.cells hone | rfl) rfl) ?_
        rintro _ _ _ ⟨b43, rfl, rfl, rfl⟩
        refine ⟨Le.refl _, .inr SubC.sub, ?_⟩
        refine r_e 7 (by kernel_rfl) (by kernel_rfl) rfl (hJ) rfl rfl rfl (e_appendT (f := ncC) (c := c42) rfl Tryz.underlying27 ti29 rfl rfl rfl rfl rfl rfl rfl (by first | exact hn18.ones | exact hn29.ones | exact hn42.ones | exact byC_ones _ | exact chC_ones _ | exact pcC_ones _ | simp [Value.oneCell', str, u8] | exact ones1 (by assumption)) (by simp only [maxLen]; omega) (by omega)) ?_
        rintro v44 _ _ ⟨rfl, rfl⟩
        refine ⟨Le.refl _, .inr SubC.sub, ?_⟩
        refine r_one v44 (fun hone => ?_)
        refine r_q0 8 (by kernel_rfl) rfl (hJ) rfl rfl rfl (fun _ hI => q_fieldAddr rfl Tryz.underlying29 rfl rfl ti27 rfl rfl) ?_
        refine r_e0 9 (by kernel_rfl) (by kernel_rfl) rfl (hJ) rfl rfl (e_storeS rfl ti27 rfl rfl (by first | exact ⟨rfl, rfl⟩ | assumption | exact hone) rfl (by first | (simp only [List.set_cons_succ, List.set_cons_zero]; rfl) | rfl)) ?_
        rintro _ _ _ ⟨rfl, rfl⟩
        refine ⟨Le.refl _, .inl rfl, ?_⟩
        refine r_heap (H' := row b5 29 (ncC ⟨9, false, false, [], nilS', nilS', v44⟩) :: _) ?_ (fun _ h => h)
        refine r_end (by kernel_rfl) ?_
        refine n_cut ((p, lv, J, v44, cs ++ [c42], l ++ [x42])) ?_ (sub_nil) (sub_cons rfl (sub_cons rfl (sub_cons rfl (sub_cons rfl (sub_cons rfl sub_nil))))) (fun _ h => by try dsimp only; exact subC_st h)
        · try dsimp only
          exact ⟨hL, hp, hns, by rw [List.length_append, List.length_singleton]; omega, hR⟩
      · skip
        have q2 : ¬ keyB [101, 108, 115, 101] (headT s p) = true := by rw [show keyB [101, 108, 115, 101] (headT s p) = false from hc1]; simp
        rw [if_neg q2] at hR
        refine t_skip ?_
        refine n_cut ((p, lv, J, v, cs, l)) ?_ (sub_nil) (sub_cons rfl (sub_cons rfl (sub_cons rfl (sub_cons rfl (sub_cons rfl sub_nil))))) (fun _ h => by try dsimp only; exact subC_st h)
        · try dsimp only
          exact ⟨hL, hp, hns, hmu, hR⟩
    rintro ⟨p, lv, J, v, cs, l⟩ ⟨hL, hp, hns, hmu, hR⟩
    try dsimp only at *
    refine t_seq ?_
    refine t_region ?_
    refine l_q rfl rfl rfl (q_move rfl rfl) ?_
    refine l_eP rfl rfl rfl (eff_callP rfl rfl rfl Tryz.func160 (by kernel_rfl) rfl (fun w hw => needKey_calls b s hs [102, 105] p lv _ _ _ w _ rfl hp (picks_st1 (row b 53 (prC s lv p.next)) hw))) ?_ ?_
    · skip
      rintro _ Jx _ ⟨hJx, rfl, ax, ex, hbx, rfl⟩
      rw [bnd_bad hbx] at hR
      refine np_then (?_)
      exact np_body fun w hw => .inr ⟨_, rfl, Jx, _, ⟨hL.trans hJx, rfl, ax, ex, hR, rfl⟩, subC_st hw⟩
    rintro v47 J _ ⟨hJ, x47, p, lv, he47, hmu47, hp, rfl, rfl⟩
    have hL := hL.trans hJ
    rw [bnd_ok he47] at hR
    have hns := hns.mono hJ
    refine l_nil ?_
    refine n_then ?_
    refine t_seq ?_
    refine t_freezeT (f := ncC) (l := cs) v (fun _ => rfl) (fun Jf hJf hvf => ?_)
    have hnf : NdAt Jf (ndK 9 l) ⟨9, false, false, [], nilS', nilS', v⟩ := NdAt.kids hvf (hns.mono hJf)
    refine t_region ?_
    refine l_q rfl rfl rfl (q_load_rowA rfl Tryz.underlying29 ti29 rfl rfl rfl) ?_
    refine l_e0 rfl rfl ((by first | exact e_store_all rfl ti29 rfl rfl rfl (by first | exact chC_ones _ | exact pcC_ones _ | exact nc0_ones | exact kc_ones slb_one | exact kc_ones nil_one | exact hnf.ones | simp [Value.oneCell', str, u8]) rfl | exact e_store_agg rfl ti29 rfl rfl rfl (by first | exact chC_ones _ | exact pcC_ones _ | exact nc0_ones | exact kc_ones slb_one | exact kc_ones nil_one | exact hnf.ones | simp [Value.oneCell', str, u8]) rfl)) ?_
    rintro _ _ _ ⟨rfl, rfl⟩
    refine l_nil ?_
    refine n_then ?_
    refine t_ret ?_
    refine n_retGG (.inl rfl) rfl (by exact rg_row rfl Tryz.underlying29 ti29 rfl rfl (rg_nil)) (fun w' hw => ?_)
    -- leaf 0
    exact .inl ⟨_, rfl, Jf, _, ⟨hL.trans hJf, _, p, lv, hR, by omega, hp.mono hJf, ⟨_, rfl, hnf⟩, rfl⟩, subC_st hw⟩
set_option maxRecDepth 10000 in
theorem function_calls (b : Nat) (s : List UInt8) (hs : s.length ≤ 65536) (name : List UInt8) (n d : Nat) (hn0 : 25 - d = n) (hd : d ≤ 25) (hK : ∀ m, n = m + 1 → ParC 135 b s [.int .i64 (d : Int)] (lvC s (m + 1)).2 NdV 1) : ParC 169 b s [str name, .int .i64 (d : Int)] (fnP (lvC s n).2 name) NdV 1 := by
  intro p lv I F w0 w R hR hp hw0
  have hL := Le.refl I
  obtain ⟨M, hM⟩ : ∃ M, M = muP s p := ⟨_, rfl⟩
  unfold fnP at hR
  refine enter Tryz.func169 rfl Tryz.ntmps169 rfl (hw0.self) ?_
  refine t_seq ?_
  refine t_region ?_
  refine l_e rfl rfl rfl (e_alloc rfl ti29 rfl) ?_
  rintro _ _ _ ⟨b6, rfl, rfl, rfl⟩
  refine l_heap (H' := row b6 29 (ncC nc0) :: _) ?_ (fun _ h => h)
  refine l_nil ?_
  refine n_then ?_
  refine t_seq ?_
  refine t_seq ?_
  refine t_region ?_
  refine l_q rfl rfl rfl (q_move rfl rfl) ?_
  refine l_eP rfl rfl rfl (eff_callP rfl rfl rfl Tryz.func33 (by kernel_rfl) rfl (fun w hw => now_calls b s hs p lv _ _ _ w _ rfl hp (picks_st1 (row b 53 (prC s lv p.next)) hw))) ?_ ?_
  · skip
    rintro _ Jx _ ⟨hJx, rfl, ax, ex, hbx, rfl⟩
    rw [bnd_bad (fn_bad n hbx)] at hR
    refine np_then (np_then (?_))
    exact np_body fun w hw => .inr ⟨_, rfl, Jx, _, ⟨hL.trans hJx, rfl, ax, ex, hR, rfl⟩, subC_st hw⟩
  rintro v9 J _ ⟨hJ, x9, p, lv, he9, hmu9, hp, ⟨rfl, hf, rfl⟩, rfl⟩
  have hL := hL.trans hJ
  refine l_e rfl rfl rfl (e_alloc rfl ti79 rfl) ?_
  rintro _ _ _ ⟨b7, rfl, rfl, rfl⟩
  refine l_e0 rfl rfl ((by first | exact e_store_all rfl ti79 rfl rfl rfl (by first | exact chC_ones _ | exact pcC_ones _ | exact nc0_ones | exact kc_ones slb_one | exact tokC_ones _ | exact ncC_ones' (c := ⟨14, false, false, name, nilS', nilS', (.slice (some ⟨b20, 0, none⟩) 1 1)⟩) nil_one nil_one slb_one | simp [Value.oneCell', str, u8]) rfl | exact e_store_agg rfl ti79 rfl rfl rfl (by first | exact chC_ones _ | exact pcC_ones _ | exact nc0_ones | exact kc_ones slb_one | exact tokC_ones _ | exact ncC_ones' (c := ⟨14, false, false, name, nilS', nilS', (.slice (some ⟨b20, 0, none⟩) 1 1)⟩) nil_one nil_one slb_one | simp [Value.oneCell', str, u8]) rfl)) ?_
  rintro _ _ _ ⟨rfl, rfl⟩
  refine l_heap (H' := row b7 79 (tokC (headT s p)) :: _) ?_ (fun _ h => h)
  refine l_nil ?_
  refine n_then ?_
  refine t_seq ?_
  refine t_region ?_
  refine l_q rfl rfl rfl (q_move rfl rfl) ?_
  refine l_q rfl rfl rfl (q_gtr rfl rfl rfl) ?_
  refine l_nil ?_
  refine n_then ?_
  refine t_cond rfl (fun hc0 => ?_) (fun hc0 => ?_)
  · skip
    try simp at hc0
    rw [bnd_bad (fn_nest (n := n) (by omega) he9)] at hR
    refine t_region ?_
    refine l_q rfl rfl rfl (q_fieldAddr rfl Tryz.underlying79 rfl rfl ti3 rfl rfl) ?_
    refine l_q rfl rfl rfl (q_load_row rfl Tryz.underlying3 rfl rfl (by rfl)) ?_
    refine l_q rfl rfl rfl (q_build (pl := [(_, _), (_, _)]) (cs := ([.int .i64 ((headT s p).pos : Int), .int .i64 52]).toArray) rfl Tryz.underlying48 ti48 ⟨rfl, ⟨_, _, ti3⟩, rfl, ⟨_, _, ti30⟩, trivial⟩ rfl rfl) ?_
    refine l_q rfl rfl rfl (q_makeIface rfl Tryz.underlying48 rfl rfl) ?_
    refine l_panic rfl rfl rfl ?_
    refine np_then (?_)
    exact np_body fun w hw => .inr ⟨_, rfl, J, _, ⟨hL, rfl, _, _, hR, rfl⟩, subC_st hw⟩
  · skip
    try simp at hc0
    obtain ⟨m, rfl⟩ : ∃ m, n = m + 1 := ⟨n - 1, by omega⟩
    rw [bnd_v, show (lvC s (m + 1)).2 _ = (lvC s (m + 1)).2 p from comp_fill he9 hf rfl, ← bnd_v] at hR
    refine t_skip ?_
    refine n_then ?_
    refine t_seq ?_
    refine t_region ?_
    refine l_q rfl rfl rfl (q_move rfl rfl) ?_
    refine l_q rfl rfl rfl (q_move rfl rfl) ?_
    refine l_q rfl rfl rfl (q_move rfl rfl) ?_
    refine l_eP rfl rfl rfl (eff_callP rfl rfl rfl Tryz.func135 (by kernel_rfl) rfl (fun w hw => (hK m rfl) p lv _ _ _ w _ rfl hp (picks_st1 (row b 53 (prC s lv p.next)) hw))) ?_ ?_
    · skip
      rintro _ Jx _ ⟨hJx, rfl, ax, ex, hbx, rfl⟩
      rw [bnd_bad hbx] at hR
      refine np_then (?_)
      exact np_body fun w hw => .inr ⟨_, rfl, Jx, _, ⟨hL.trans hJx, rfl, ax, ex, hR, rfl⟩, subC_st hw⟩
    rintro v19 J _ ⟨hJ, x19, p, lv, he19, hmu19, hp, ⟨c19, rfl, hn19⟩, rfl⟩
    have hL := hL.trans hJ
    rw [bnd_ok he19] at hR
    refine l_e rfl rfl rfl (e_buildSlice1 rfl Tryz.underlying27 ti29 rfl rfl rfl (by first | exact One.cells (by assumption) | rfl) rfl) ?_
    rintro _ _ _ ⟨b20, rfl, rfl, rfl⟩
    refine l_heap (H' := tvec 29 7 ncC (.slice (some ⟨b20, 0, none⟩) 1 1) [c19] :: _) ?_ (fun _ h => st_rowVec h rfl (by decide))
    refine l_q rfl rfl rfl (q_build (pl := [(_, _), (_, _), (_, _), (_, _), (_, _), (_, _), (_, _)]) (cs := (ncC ⟨14, false, false, name, nilS', nilS', (.slice (some ⟨b20, 0, none⟩) 1 1)⟩).toArray) rfl Tryz.underlying29 ti29 ⟨rfl, ⟨_, _, ti3⟩, rfl, ⟨_, _, ti4⟩, rfl, ⟨_, _, ti4⟩, rfl, ⟨_, _, ti9⟩, rfl, ⟨_, _, ti25⟩, rfl, ⟨_, _, ti26⟩, rfl, ⟨_, _, ti27⟩, trivial⟩ rfl rfl) ?_
    refine l_e0 rfl rfl ((by first | exact e_store_all rfl ti29 rfl rfl rfl (by first | exact chC_ones _ | exact pcC_ones _ | exact nc0_ones | exact kc_ones slb_one | exact tokC_ones _ | exact ncC_ones' (c := ⟨14, false, false, name, nilS', nilS', (.slice (some ⟨b20, 0, none⟩) 1 1)⟩) nil_one nil_one slb_one | simp [Value.oneCell', str, u8]) rfl | exact e_store_agg rfl ti29 rfl rfl rfl (by first | exact chC_ones _ | exact pcC_ones _ | exact nc0_ones | exact kc_ones slb_one | exact tokC_ones _ | exact ncC_ones' (c := ⟨14, false, false, name, nilS', nilS', (.slice (some ⟨b20, 0, none⟩) 1 1)⟩) nil_one nil_one slb_one | simp [Value.oneCell', str, u8]) rfl)) ?_
    rintro _ _ _ ⟨rfl, rfl⟩
    refine l_heap (H' := row b6 29 (ncC ⟨14, false, false, name, nilS', nilS', (.slice (some ⟨b20, 0, none⟩) 1 1)⟩) :: _) ?_ (fun _ h => h)
    refine l_freezeT (f := ncC) (l := [c19]) (.slice (some ⟨b20, 0, none⟩) 1 1) (fun _ => rfl) (fun Jf hJf hvf => ?_)
    refine l_nil ?_
    refine n_then ?_
    refine t_ret ?_
    refine n_retGG (.inl rfl) rfl (by exact rg_row rfl Tryz.underlying29 ti29 rfl rfl (rg_nil)) (fun w' hw => ?_)
    -- leaf 0
    exact .inl ⟨_, rfl, Jf, _, ⟨hL.trans hJf, _, p, lv, hR, by omega, hp.mono hJf, ⟨_, rfl, NdAt.of sl_nilS sl_nilS hvf (NdsAt.one (hn19.mono hJf))⟩, rfl⟩, subC_st hw⟩
end Go.Tri

/-
  The parser: for.
-/
namespace Go.Tri
open Go.Proofs Go.RowKit
theorem forB_t {t : Tok} (h : (decide ((t.kind : Int) ≠ 1) || !nameB t.text) = true) : ¬ (t.kind = 1 ∧ nameB t.text = true) := fun ⟨h1, h2⟩ => by
  rw [h2, show decide ((t.kind : Int) ≠ 1) = false from decide_eq_false (by omega)] at h
  cases h
theorem forB_f {t : Tok} (h : (decide ((t.kind : Int) ≠ 1) || !nameB t.text) = false) : t.kind = 1 ∧ nameB t.text = true := by
  rw [Bool.or_eq_false_iff, decide_eq_false_iff_not, Bool.not_eq_false'] at h
  exact ⟨by omega, h.2⟩
theorem wv_ones {k : Nat} {a b : Bool} {nm : List UInt8} {x y z : Value} (h1 : One x) (h2 : One y) (h3 : One z) : ∀ u ∈ ncC ⟨k, a, b, nm, x, y, z⟩, u.oneCell' = true := ncC_ones' h1 h2 h3
set_option maxRecDepth 10000 in
theorem fors_calls (b : Nat) (s : List UInt8) (hs : s.length ≤ 65536) (B : PS → ReR Nd) (d : Nat) (hd : d ≤ 24) (hB : ParC 158 b s [.int .i64 ((d : Int) + 1)] B NdV 1) : ParC 162 b s [.int .i64 (d : Int)] (forP s B) NdV 1 := by
  intro p lv I F w0 w R hR hp hw0
  have hL := Le.refl I
  obtain ⟨M, hM⟩ : ∃ M, M = muP s p := ⟨_, rfl⟩
  unfold forP at hR
  refine enter Tryz.func162 rfl Tryz.ntmps162 rfl (hw0.self) ?_
  refine t_seq ?_
  refine t_region ?_
  refine l_e rfl rfl rfl (e_box rfl rfl (by first | exact One.cells (by assumption) | exact One.cells ⟨rfl, rfl⟩ | exact One.cells hv36.one | exact One.cells slb_one | rfl)) ?_
  rintro _ _ _ ⟨b2, rfl, rfl, rfl⟩
  refine l_e rfl rfl rfl (e_alloc rfl ti29 rfl) ?_
  rintro _ _ _ ⟨b4, rfl, rfl, rfl⟩
  refine l_heap (H' := row b4 29 (ncC nc0) :: _) ?_ (fun _ h => h)
  refine l_nil ?_
  refine n_then ?_
  refine t_seq ?_
  refine t_freezeRow b2 (fun J hJ hb2r => ?_)
  have hb2 : CellI J b2 0 (pAt b) := hb2r 0 _ rfl
  have hL := hL.trans hJ
  have hp := hp.mono hJ
  refine t_region ?_
  refine l_q rfl rfl rfl ((by first | exact q_load_row rfl Tryz.underlying50 rfl rfl (by rfl) | exact q_load rfl Tryz.underlying50 rfl rfl (rd_imm hb2))) ?_
  refine l_eP rfl rfl rfl (eff_callP rfl rfl rfl Tryz.func36 (by kernel_rfl) rfl (fun w hw => step_calls b s hs p lv _ _ _ w _ rfl hp (picks_st1 (row b 53 (prC s lv p.next)) hw))) ?_ ?_
  · skip
    rintro _ Jx _ ⟨hJx, rfl, ax, ex, hbx, rfl⟩
    rw [bnd_bad hbx] at hR
    refine np_then (?_)
    exact np_body fun w hw => .inr ⟨_, rfl, Jx, _, ⟨hL.trans hJx, rfl, ax, ex, hR, rfl⟩, subC_st hw⟩
  rintro v8 J _ ⟨hJ, x8, p, lv, he8, hmu8, hp, rfl, rfl⟩
  have hL := hL.trans hJ
  rw [bnd_ok he8] at hR
  have hb2 := hb2.mono hJ
  refine l_nil ?_
  refine n_then ?_
  refine t_seq ?_
  refine t_seq ?_
  refine t_region ?_
  refine l_q rfl rfl rfl ((by first | exact q_load_row rfl Tryz.underlying50 rfl rfl (by rfl) | exact q_load rfl Tryz.underlying50 rfl rfl (rd_imm hb2))) ?_
  refine l_eP rfl rfl rfl (eff_callP rfl rfl rfl Tryz.func33 (by kernel_rfl) rfl (fun w hw => now_calls b s hs p lv _ _ _ w _ rfl hp (picks_st1 (row b 53 (prC s lv p.next)) hw))) ?_ ?_
  · skip
    rintro _ Jx _ ⟨hJx, rfl, ax, ex, hbx, rfl⟩
    rw [bnd_bad hbx] at hR
    refine np_then (np_then (?_))
    exact np_body fun w hw => .inr ⟨_, rfl, Jx, _, ⟨hL.trans hJx, rfl, ax, ex, hR, rfl⟩, subC_st hw⟩
  rintro v10 J _ ⟨hJ, x10, p, lv, he10, hmu10, hp, ⟨rfl, hf, rfl⟩, rfl⟩
  have hL := hL.trans hJ
  rw [bnd_ok he10] at hR
  have hb2 := hb2.mono hJ
  refine l_e rfl rfl rfl (e_alloc rfl ti79 rfl) ?_
  rintro _ _ _ ⟨b5, rfl, rfl, rfl⟩
  refine l_e0 rfl rfl ((by first | exact e_store_all rfl ti79 rfl rfl rfl (by first | exact chC_ones _ | exact pcC_ones _ | exact nc0_ones | exact kc_ones slb_one | exact tokC_ones _ | exact wv_ones nil_one nil_one nil_one | exact wv_ones hwv.one nil_one nil_one | exact hnf.ones | simp [Value.oneCell', str, u8]) rfl | exact e_store_agg rfl ti79 rfl rfl rfl (by first | exact chC_ones _ | exact pcC_ones _ | exact nc0_ones | exact kc_ones slb_one | exact tokC_ones _ | exact wv_ones nil_one nil_one nil_one | exact wv_ones hwv.one nil_one nil_one | exact hnf.ones | simp [Value.oneCell', str, u8]) rfl)) ?_
  rintro _ _ _ ⟨rfl, rfl⟩
  refine l_heap (H' := row b5 79 (tokC (headT s p)) :: _) ?_ (fun _ h => h)
  refine l_nil ?_
  refine n_then ?_
  refine t_seq ?_
  refine t_qreg ?_
  refine s_q rfl rfl rfl (q_fieldAddr rfl Tryz.underlying79 rfl rfl ti3 rfl rfl) ?_
  refine s_q rfl rfl rfl ((by first | exact q_load_row rfl Tryz.underlying3 rfl rfl (by rfl) | exact q_load rfl Tryz.underlying3 rfl rfl (rd_imm hb2))) ?_
  refine s_q rfl rfl rfl (q_neq rfl rfl rfl) ?_
  refine s_q rfl rfl rfl (q_move rfl rfl) ?_
  refine s_or2 4 3 14 19 18 _ _ rfl rfl rfl rfl rfl rfl (fun h19 => by
      try simp at h19
      refine s_g rfl rfl rfl rfl rfl rfl (q_fieldAddr rfl Tryz.underlying79 rfl rfl ti9 rfl rfl) ?_
      refine s_g rfl rfl rfl rfl rfl rfl ((by first | exact q_load_row rfl Tryz.underlying9 rfl rfl (by rfl) | exact q_load rfl Tryz.underlying9 rfl rfl (rd_imm hb2))) ?_
      refine s_g rfl rfl rfl rfl rfl rfl (quiet_call rfl rfl rfl Tryz.func168 (by kernel_rfl) rfl ((fun w _ => name_pure (headT s p).text w (by have := headT_len hp.1; omega)))) ?_
      refine s_g rfl rfl rfl rfl rfl rfl (q_not rfl rfl) ?_
      exact s_val rfl
    ) (wanted_n rfl) rfl rfl rfl ?_
  refine s_done ?_
  refine n_then ?_
  refine t_cond rfl (fun hc0 => ?_) (fun hc0 => ?_)
  · skip
    rw [if_neg (forB_t hc0)] at hR
    refine t_region ?_
    refine l_q rfl rfl rfl ((by first | exact q_load_row rfl Tryz.underlying50 rfl rfl (by rfl) | exact q_load rfl Tryz.underlying50 rfl rfl (rd_imm hb2))) ?_
    refine l_eP rfl rfl rfl (eff_callP rfl rfl rfl Tryz.func35 (by kernel_rfl) rfl (fun w hw => badF_calls b s p lv hs _ _ _ w hf hp (picks_st1 (row b 53 (prC s lv p.next)) hw))) ?_ ?_
    · skip
      rintro _ Jx _ ⟨hJx, rfl, rfl⟩
      refine np_then (?_)
      exact np_body fun w hw => .inr ⟨_, rfl, Jx, _, ⟨hL.trans hJx, rfl, _, _, hR, rfl⟩, subC_st hw⟩
    rintro _ _ _ ⟨⟩
  · skip
    have hkn := forB_f hc0
    have hk1 := hkn.1
    rw [if_pos hkn] at hR
    have htl := headT_len hp.1
    obtain ⟨tt, htt⟩ : ∃ z, headT s p = z := ⟨_, rfl⟩
    rw [htt] at hR htl
    have hmk : (headT s p).kind ≠ 0 := by omega
    have hms := mu_step hmk
    refine t_skip ?_
    refine n_then ?_
    refine t_seq ?_
    refine t_region ?_
    refine l_q rfl rfl rfl ((by first | exact q_load_row rfl Tryz.underlying50 rfl rfl (by rfl) | exact q_load rfl Tryz.underlying50 rfl rfl (rd_imm hb2))) ?_
    refine l_eP rfl rfl rfl (eff_callP rfl rfl rfl Tryz.func167 (by kernel_rfl) rfl (fun w hw => pword_calls b s hs p lv _ _ _ w _ rfl hp (picks_st1 (row b 53 (prC s lv p.next)) hw))) ?_ ?_
    · skip
      rintro _ Jx _ ⟨hJx, rfl, ax, ex, hbx, rfl⟩
      rw [wordR_filled hf hk1] at hbx
      cases hbx
    rintro v23 J _ ⟨hJ, x23, p, lv, he23, hmu23, hp, ⟨rfl, htl23⟩, rfl⟩
    have hL := hL.trans hJ
    obtain ⟨hx23, hst23⟩ := word_inj hf hk1 he23
    rw [htt] at hx23
    subst hx23
    rw [← hst23] at hR
    have hb2 := hb2.mono hJ
    refine l_q rfl rfl rfl (q_build (pl := [(_, _), (_, _), (_, _), (_, _), (_, _), (_, _), (_, _)]) (cs := (ncC ⟨12, false, false, tt.text, nilS', nilS', nilS'⟩).toArray) rfl Tryz.underlying29 ti29 ⟨rfl, ⟨_, _, ti3⟩, rfl, ⟨_, _, ti4⟩, rfl, ⟨_, _, ti4⟩, rfl, ⟨_, _, ti9⟩, rfl, ⟨_, _, ti25⟩, rfl, ⟨_, _, ti26⟩, rfl, ⟨_, _, ti27⟩, trivial⟩ rfl rfl) ?_
    refine l_e rfl rfl rfl (e_alloc rfl ti29 rfl) ?_
    rintro _ _ _ ⟨b6, rfl, rfl, rfl⟩
    refine l_e0 rfl rfl ((by first | exact e_store_all rfl ti29 rfl rfl rfl (by first | exact chC_ones _ | exact pcC_ones _ | exact nc0_ones | exact kc_ones slb_one | exact tokC_ones _ | exact wv_ones nil_one nil_one nil_one | exact wv_ones hwv.one nil_one nil_one | exact hnf.ones | simp [Value.oneCell', str, u8]) rfl | exact e_store_agg rfl ti29 rfl rfl rfl (by first | exact chC_ones _ | exact pcC_ones _ | exact nc0_ones | exact kc_ones slb_one | exact tokC_ones _ | exact wv_ones nil_one nil_one nil_one | exact wv_ones hwv.one nil_one nil_one | exact hnf.ones | simp [Value.oneCell', str, u8]) rfl)) ?_
    rintro _ _ _ ⟨rfl, rfl⟩
    refine l_heap (H' := row b6 29 (ncC ⟨12, false, false, tt.text, nilS', nilS', nilS'⟩) :: _) ?_ (fun _ h => h)
    refine l_nil ?_
    refine n_then ?_
    refine t_seq ?_
    refine t_region ?_
    refine l_q rfl rfl rfl ((by first | exact q_load_row rfl Tryz.underlying50 rfl rfl (by rfl) | exact q_load rfl Tryz.underlying50 rfl rfl (rd_imm hb2))) ?_
    refine l_eP rfl rfl rfl (eff_callP rfl rfl rfl Tryz.func32 (by kernel_rfl) rfl (fun w hw => lines_calls b s hs p lv _ _ _ w _ rfl hp (picks_st1 (row b 53 (prC s lv p.next)) hw))) ?_ ?_
    · skip
      rintro _ Jx _ ⟨hJx, rfl, ax, ex, hbx, rfl⟩
      rw [bnd_bad hbx] at hR
      refine np_then (?_)
      exact np_body fun w hw => .inr ⟨_, rfl, Jx, _, ⟨hL.trans hJx, rfl, ax, ex, hR, rfl⟩, subC_st hw⟩
    rintro v26 J _ ⟨hJ, x26, p, lv, he26, hmu26, hp, ⟨rfl, hf, hk3⟩, rfl⟩
    have hL := hL.trans hJ
    rw [bnd_ok he26] at hR
    rw [bnd_ok (now_filled hf)] at hR
    have hb2 := hb2.mono hJ
    refine l_nil ?_
    refine n_then ?_
    refine t_cutE (ι := PS × Value × Look × Bool × Value × List (List UInt8)) (fun zz => Le I zz.2.2.1 ∧ PSt s zz.1 zz.2.1 zz.2.2.1 ∧ CellI zz.2.2.1 b2 0 (pAt b) ∧ Sl zz.2.2.1 1 zz.2.2.2.2.1 (zz.2.2.2.2.2.map stC) ∧ muP s zz.1 + 1 ≤ M ∧ R = forK s B tt.text (zz.2.2.2.1, zz.2.2.2.2.2) zz.1) (fun zz => []) [(0, _), (1, _), (2, _), (4, _), (5, _), (19, _), (6, _)] (fun zz => zz.2.2.1) (fun zz => (row b6 29 (ncC ⟨12, false, zz.2.2.2.1, tt.text, zz.2.2.2.2.1, nilS', nilS'⟩) :: row b4 29 (ncC nc0) :: row b 53 (prC s zz.2.1 zz.1.next) :: F)) (sub_cons rfl (sub_cons rfl (sub_cons rfl (sub_cons rfl (sub_cons rfl (sub_cons rfl (sub_cons rfl sub_nil))))))) ?_ ?_
    · skip
      refine t_block ?_
      refine t_seq ?_
      refine t_region ?_
      refine l_q rfl rfl rfl ((by first | exact q_load_row rfl Tryz.underlying50 rfl rfl (by rfl) | exact q_load rfl Tryz.underlying50 rfl rfl (rd_imm hb2))) ?_
      refine l_q rfl rfl rfl (quiet_call rfl rfl rfl Tryz.func108 (by kernel_rfl) rfl ((fun w hw => keyF_pure b s [105, 110] p lv w hs hf hp.1 (rowI_of hw) (hp.2.2.mono hw.le)))) ?_
      refine l_q rfl rfl rfl (q_assign rfl rfl) ?_
      refine l_nil ?_
      refine n_then ?_
      refine t_cond rfl (fun hc1 => ?_) (fun hc1 => ?_)
      · skip
        have q1 : keyB [105, 110] (headT s p) = true := hc1
        rw [if_pos q1] at hR
        refine t_seq ?_
        refine t_region ?_
        refine l_q rfl rfl rfl ((by first | exact q_load_row rfl Tryz.underlying50 rfl rfl (by rfl) | exact q_load rfl Tryz.underlying50 rfl rfl (rd_imm hb2))) ?_
        refine l_e rfl rfl rfl (eff_call rfl rfl rfl Tryz.func36 (by kernel_rfl) rfl (fun w hw => stepF_calls b s hs p lv _ _ _ w hf hp (picks_st1 (row b 53 (prC s lv p.next)) hw))) ?_
        rintro _ J _ ⟨hJ, rfl, p, lv, hst31, hma31, hmb31, hp, rfl⟩
        have hL := hL.trans hJ
        rw [← hst31] at hR
        have hmb := hmb31 (keyB_kind q1)
        unfold forIn at hR
        have hb2 := hb2.mono hJ
        refine l_nil ?_
        refine n_then ?_
        refine t_seq ?_
        refine t_region ?_
        refine l_q rfl rfl rfl (q_fieldAddr rfl Tryz.underlying29 rfl rfl ti4 rfl rfl) ?_
        refine l_e0 rfl rfl (e_storeS rfl ti4 rfl rfl (by first | exact ⟨rfl, rfl⟩ | assumption | exact ⟨rfl, rfl⟩ | exact hv36.one | exact slb_one) rfl (by first | (simp only [List.set_cons_succ, List.set_cons_zero]; rfl) | rfl)) ?_
        rintro _ _ _ ⟨rfl, rfl⟩
        refine l_heap (H' := row b6 29 (ncC ⟨12, false, true, tt.text, nilS', nilS', nilS'⟩) :: _) ?_ (fun _ h => h)
        refine l_nil ?_
        refine n_then ?_
        refine t_seq ?_
        refine t_region ?_
        refine l_q rfl rfl rfl (q_makeFunc rfl rfl rfl) ?_
        refine l_q rfl rfl rfl ((by first | exact q_load_row rfl Tryz.underlying50 rfl rfl (by rfl) | exact q_load rfl Tryz.underlying50 rfl rfl (rd_imm hb2))) ?_
        refine l_q rfl rfl rfl (q_makeFunc rfl rfl rfl) ?_
        refine l_eP rfl rfl rfl (eff_callP rfl rfl rfl Tryz.func183 (by kernel_rfl) rfl (fun w hw => manyW_calls b b2 s hs p lv _ _ _ w _ rfl hp hb2 (picks_st1 (row b 53 (prC s lv p.next)) hw))) ?_ ?_
        · skip
          rintro _ Jx _ ⟨hJx, rfl, ax, ex, hbx, rfl⟩
          rw [bnd_bad hbx] at hR
          refine np_then (np_block (np_then (?_)))
          exact np_body fun w hw => .inr ⟨_, rfl, Jx, _, ⟨hL.trans hJx, rfl, ax, ex, hR, rfl⟩, subC_st hw⟩
        rintro v36 J _ ⟨hJ, x36, p, lv, he36, hmu36, hp, hv36, rfl⟩
        have hL := hL.trans hJ
        rw [bnd_ok he36] at hR
        have hb2 := hb2.mono hJ
        refine l_q rfl rfl rfl (q_fieldAddr rfl Tryz.underlying29 rfl rfl ti25 rfl rfl) ?_
        refine l_e0 rfl rfl (e_storeS rfl ti25 rfl rfl (by first | exact ⟨rfl, rfl⟩ | assumption | exact ⟨rfl, rfl⟩ | exact hv36.one | exact slb_one) rfl (by first | (simp only [List.set_cons_succ, List.set_cons_zero]; rfl) | rfl)) ?_
        rintro _ _ _ ⟨rfl, rfl⟩
        refine l_heap (H' := row b6 29 (ncC ⟨12, false, true, tt.text, v36, nilS', nilS'⟩) :: _) ?_ (fun _ h => h)
        refine l_nil ?_
        refine n_then ?_
        refine t_seq ?_
        refine t_seq ?_
        refine t_region ?_
        refine l_q rfl rfl rfl ((by first | exact q_load_row rfl Tryz.underlying50 rfl rfl (by rfl) | exact q_load rfl Tryz.underlying50 rfl rfl (rd_imm hb2))) ?_
        refine l_eP rfl rfl rfl (eff_callP rfl rfl rfl Tryz.func33 (by kernel_rfl) rfl (fun w hw => now_calls b s hs p lv _ _ _ w _ rfl hp (picks_st1 (row b 53 (prC s lv p.next)) hw))) ?_ ?_
        · skip
          rintro _ Jx _ ⟨hJx, rfl, ax, ex, hbx, rfl⟩
          rw [bnd_bad hbx] at hR
          refine np_then (np_then (np_block (np_then (?_))))
          exact np_body fun w hw => .inr ⟨_, rfl, Jx, _, ⟨hL.trans hJx, rfl, ax, ex, hR, rfl⟩, subC_st hw⟩
        rintro v39 J _ ⟨hJ, x39, p, lv, he39, hmu39, hp, ⟨rfl, hf, rfl⟩, rfl⟩
        have hL := hL.trans hJ
        rw [bnd_ok he39] at hR
        have hv36 := hv36.mono hJ
        have hb2 := hb2.mono hJ
        refine l_q rfl rfl rfl (q_field rfl Tryz.underlying79 rfl Tryz.underlying3 rfl rfl rfl) ?_
        refine l_q rfl rfl rfl (q_neq rfl rfl rfl) ?_
        refine l_nil ?_
        refine n_then ?_
        refine t_cond rfl (fun hc2 => ?_) (fun hc2 => ?_)
        · skip
          try simp at hc2
          rw [if_neg (show ¬ (headT s p).kind = 3 by omega)] at hR
          refine t_region ?_
          refine l_q rfl rfl rfl ((by first | exact q_load_row rfl Tryz.underlying50 rfl rfl (by rfl) | exact q_load rfl Tryz.underlying50 rfl rfl (rd_imm hb2))) ?_
          refine l_eP rfl rfl rfl (eff_callP rfl rfl rfl Tryz.func159 (by kernel_rfl) rfl (fun w hw => needOp_calls b s hs [59] p lv _ _ _ w _ rfl hp (picks_st1 (row b 53 (prC s lv p.next)) hw))) ?_ ?_
          · skip
            rintro _ Jx _ ⟨hJx, rfl, ax, ex, hbx, rfl⟩
            rw [bnd_bad hbx] at hR
            refine np_then (np_block (np_then (?_)))
            exact np_body fun w hw => .inr ⟨_, rfl, Jx, _, ⟨hL.trans hJx, rfl, ax, ex, hR, rfl⟩, subC_st hw⟩
          rintro v43 J _ ⟨hJ, x43, p, lv, he43, hmu43, hp, rfl, rfl⟩
          have hL := hL.trans hJ
          rw [bnd_ok he43] at hR
          have hv36 := hv36.mono hJ
          have hb2 := hb2.mono hJ
          refine l_nil ?_
          refine n_then ?_
          refine t_region ?_
          refine l_q rfl rfl rfl ((by first | exact q_load_row rfl Tryz.underlying50 rfl rfl (by rfl) | exact q_load rfl Tryz.underlying50 rfl rfl (rd_imm hb2))) ?_
          refine l_eP rfl rfl rfl (eff_callP rfl rfl rfl Tryz.func32 (by kernel_rfl) rfl (fun w hw => lines_calls b s hs p lv _ _ _ w _ rfl hp (picks_st1 (row b 53 (prC s lv p.next)) hw))) ?_ ?_
          · skip
            rintro _ Jx _ ⟨hJx, rfl, ax, ex, hbx, rfl⟩
            rw [bnd_bad hbx] at hR
            refine np_block (np_then (?_))
            exact np_body fun w hw => .inr ⟨_, rfl, Jx, _, ⟨hL.trans hJx, rfl, ax, ex, hR, rfl⟩, subC_st hw⟩
          rintro v45 J _ ⟨hJ, x45, p, lv, he45, hmu45, hp, ⟨rfl, hf, hk3⟩, rfl⟩
          have hL := hL.trans hJ
          rw [bnd_ok he45] at hR
          have hv36 := hv36.mono hJ
          have hb2 := hb2.mono hJ
          refine l_nil ?_
          refine n_block ?_
          refine n_cut ((p, lv, J, true, v36, x36)) ?_ (sub_nil) (sub_cons rfl (sub_cons rfl (sub_cons rfl (sub_cons rfl (sub_cons rfl (sub_cons rfl (sub_cons rfl sub_nil))))))) (fun _ h => by try dsimp only; exact subC_st h)
          · try dsimp only
            exact ⟨hL, hp, hb2, hv36, by omega, hR⟩
        · skip
          try simp at hc2
          rw [if_pos (show (headT s p).kind = 3 by omega)] at hR
          refine t_skip ?_
          refine n_then ?_
          refine t_region ?_
          refine l_q rfl rfl rfl ((by first | exact q_load_row rfl Tryz.underlying50 rfl rfl (by rfl) | exact q_load rfl Tryz.underlying50 rfl rfl (rd_imm hb2))) ?_
          refine l_eP rfl rfl rfl (eff_callP rfl rfl rfl Tryz.func32 (by kernel_rfl) rfl (fun w hw => lines_calls b s hs p lv _ _ _ w _ rfl hp (picks_st1 (row b 53 (prC s lv p.next)) hw))) ?_ ?_
          · skip
            rintro _ Jx _ ⟨hJx, rfl, ax, ex, hbx, rfl⟩
            rw [bnd_bad hbx] at hR
            refine np_block (np_then (?_))
            exact np_body fun w hw => .inr ⟨_, rfl, Jx, _, ⟨hL.trans hJx, rfl, ax, ex, hR, rfl⟩, subC_st hw⟩
          rintro v45 J _ ⟨hJ, x45, p, lv, he45, hmu45, hp, ⟨rfl, hf, hk3⟩, rfl⟩
          have hL := hL.trans hJ
          rw [bnd_ok he45] at hR
          have hv36 := hv36.mono hJ
          have hb2 := hb2.mono hJ
          refine l_nil ?_
          refine n_block ?_
          refine n_cut ((p, lv, J, true, v36, x36)) ?_ (sub_nil) (sub_cons rfl (sub_cons rfl (sub_cons rfl (sub_cons rfl (sub_cons rfl (sub_cons rfl (sub_cons rfl sub_nil))))))) (fun _ h => by try dsimp only; exact subC_st h)
          · try dsimp only
            exact ⟨hL, hp, hb2, hv36, by omega, hR⟩
      · skip
        have q1 : ¬ keyB [105, 110] (headT s p) = true := by rw [show keyB [105, 110] (headT s p) = false from hc1]; simp
        rw [if_neg q1] at hR
        refine t_seq ?_
        refine t_region ?_
        refine l_q rfl rfl rfl ((by first | exact q_load_row rfl Tryz.underlying50 rfl rfl (by rfl) | exact q_load rfl Tryz.underlying50 rfl rfl (rd_imm hb2))) ?_
        refine l_q rfl rfl rfl (quiet_call rfl rfl rfl Tryz.func55 (by kernel_rfl) rfl ((fun w hw => opF_pure b s [59] p lv w hs hf hp.1 (rowI_of hw) (hp.2.2.mono hw.le)))) ?_
        refine l_q rfl rfl rfl (q_assign rfl rfl) ?_
        refine l_nil ?_
        refine n_then ?_
        refine t_cond rfl (fun hc3 => ?_) (fun hc3 => ?_)
        · skip
          have q3 : opB [59] (headT s p) = true := hc3
          rw [if_pos q3] at hR
          refine t_seq ?_
          refine t_region ?_
          refine l_q rfl rfl rfl ((by first | exact q_load_row rfl Tryz.underlying50 rfl rfl (by rfl) | exact q_load rfl Tryz.underlying50 rfl rfl (rd_imm hb2))) ?_
          refine l_e rfl rfl rfl (eff_call rfl rfl rfl Tryz.func36 (by kernel_rfl) rfl (fun w hw => stepF_calls b s hs p lv _ _ _ w hf hp (picks_st1 (row b 53 (prC s lv p.next)) hw))) ?_
          rintro _ J _ ⟨hJ, rfl, p, lv, hst50, hma50, hmb50, hp, rfl⟩
          have hL := hL.trans hJ
          rw [← hst50] at hR
          have hmb := hmb50 (opB_kind q3)
          have hb2 := hb2.mono hJ
          refine l_nil ?_
          refine n_then ?_
          refine t_region ?_
          refine l_q rfl rfl rfl ((by first | exact q_load_row rfl Tryz.underlying50 rfl rfl (by rfl) | exact q_load rfl Tryz.underlying50 rfl rfl (rd_imm hb2))) ?_
          refine l_eP rfl rfl rfl (eff_callP rfl rfl rfl Tryz.func32 (by kernel_rfl) rfl (fun w hw => lines_calls b s hs p lv _ _ _ w _ rfl hp (picks_st1 (row b 53 (prC s lv p.next)) hw))) ?_ ?_
          · skip
            rintro _ Jx _ ⟨hJx, rfl, ax, ex, hbx, rfl⟩
            rw [bnd_bad hbx] at hR
            refine np_block (np_then (?_))
            exact np_body fun w hw => .inr ⟨_, rfl, Jx, _, ⟨hL.trans hJx, rfl, ax, ex, hR, rfl⟩, subC_st hw⟩
          rintro v52 J _ ⟨hJ, x52, p, lv, he52, hmu52, hp, ⟨rfl, hf, hk3⟩, rfl⟩
          have hL := hL.trans hJ
          rw [bnd_ok he52] at hR
          have hb2 := hb2.mono hJ
          refine l_nil ?_
          refine n_block ?_
          refine n_cut ((p, lv, J, false, nilS', [])) ?_ (sub_nil) (sub_cons rfl (sub_cons rfl (sub_cons rfl (sub_cons rfl (sub_cons rfl (sub_cons rfl (sub_cons rfl sub_nil))))))) (fun _ h => by try dsimp only; exact subC_st h)
          · try dsimp only
            exact ⟨hL, hp, hb2, sl_nilS, by omega, hR⟩
        · skip
          have q3 : ¬ opB [59] (headT s p) = true := by rw [show opB [59] (headT s p) = false from hc3]; simp
          rw [if_neg q3] at hR
          refine t_skip ?_
          refine n_block ?_
          refine n_cut ((p, lv, J, false, nilS', [])) ?_ (sub_nil) (sub_cons rfl (sub_cons rfl (sub_cons rfl (sub_cons rfl (sub_cons rfl (sub_cons rfl (sub_cons rfl sub_nil))))))) (fun _ h => by try dsimp only; exact subC_st h)
          · try dsimp only
            exact ⟨hL, hp, hb2, sl_nilS, by omega, hR⟩
    rintro ⟨p, lv, J, isin, wv, ws⟩ ⟨hL, hp, hb2, hwv, hmc, hR⟩
    try dsimp only at *
    unfold forK at hR
    refine t_seq ?_
    refine t_region ?_
    refine l_q rfl rfl rfl ((by first | exact q_load_row rfl Tryz.underlying50 rfl rfl (by rfl) | exact q_load rfl Tryz.underlying50 rfl rfl (rd_imm hb2))) ?_
    refine l_eP rfl rfl rfl (eff_callP rfl rfl rfl Tryz.func160 (by kernel_rfl) rfl (fun w hw => needKey_calls b s hs [100, 111] p lv _ _ _ w _ rfl hp (picks_st1 (row b 53 (prC s lv p.next)) hw))) ?_ ?_
    · skip
      rintro _ Jx _ ⟨hJx, rfl, ax, ex, hbx, rfl⟩
      rw [bnd_bad hbx] at hR
      refine np_then (?_)
      exact np_body fun w hw => .inr ⟨_, rfl, Jx, _, ⟨hL.trans hJx, rfl, ax, ex, hR, rfl⟩, subC_st hw⟩
    rintro v54 J _ ⟨hJ, x54, p, lv, he54, hmu54, hp, rfl, rfl⟩
    have hL := hL.trans hJ
    rw [bnd_ok he54] at hR
    have hwv := hwv.mono hJ
    have hb2 := hb2.mono hJ
    refine l_nil ?_
    refine n_then ?_
    refine t_seq ?_
    refine t_region ?_
    refine l_q rfl rfl rfl ((by first | exact q_load_row rfl Tryz.underlying50 rfl rfl (by rfl) | exact q_load rfl Tryz.underlying50 rfl rfl (rd_imm hb2))) ?_
    refine l_q rfl rfl rfl (q_move rfl rfl) ?_
    refine l_q rfl rfl rfl (q_add64 rfl rfl rfl (by omega)) ?_
    refine l_eP rfl rfl rfl (eff_callP rfl rfl rfl Tryz.func158 (by kernel_rfl) rfl (fun w hw => hB p lv _ _ _ w _ rfl hp (picks_st1 (row b 53 (prC s lv p.next)) hw))) ?_ ?_
    · skip
      rintro _ Jx _ ⟨hJx, rfl, ax, ex, hbx, rfl⟩
      rw [bnd_bad hbx] at hR
      refine np_then (?_)
      exact np_body fun w hw => .inr ⟨_, rfl, Jx, _, ⟨hL.trans hJx, rfl, ax, ex, hR, rfl⟩, subC_st hw⟩
    rintro v58 J _ ⟨hJ, x58, p, lv, he58, hmu58, hp, ⟨c58, rfl, hn58⟩, rfl⟩
    have hL := hL.trans hJ
    rw [bnd_ok he58] at hR
    have hwv := hwv.mono hJ
    have hb2 := hb2.mono hJ
    refine l_e rfl rfl rfl (e_buildSlice1 rfl Tryz.underlying27 ti29 rfl rfl rfl (by first | exact One.cells (by assumption) | exact One.cells ⟨rfl, rfl⟩ | exact One.cells hv36.one | exact One.cells slb_one | rfl) rfl) ?_
    rintro _ _ _ ⟨b59, rfl, rfl, rfl⟩
    refine l_heap (H' := tvec 29 7 ncC (.slice (some ⟨b59, 0, none⟩) 1 1) [c58] :: _) ?_ (fun _ h => st_rowVec h rfl (by decide))
    refine l_q rfl rfl rfl (q_fieldAddr rfl Tryz.underlying29 rfl rfl ti27 rfl rfl) ?_
    refine l_e0 rfl rfl (e_storeS rfl ti27 rfl rfl (by first | exact ⟨rfl, rfl⟩ | assumption | exact ⟨rfl, rfl⟩ | exact hv36.one | exact slb_one) rfl (by first | (simp only [List.set_cons_succ, List.set_cons_zero]; rfl) | rfl)) ?_
    rintro _ _ _ ⟨rfl, rfl⟩
    refine l_heap (H' := row b6 29 (ncC ⟨12, false, isin, tt.text, wv, nilS', (.slice (some ⟨b59, 0, none⟩) 1 1)⟩) :: _) ?_ (fun _ h => h)
    refine l_nil ?_
    refine n_then ?_
    refine t_seq ?_
    refine t_region ?_
    refine l_q rfl rfl rfl ((by first | exact q_load_row rfl Tryz.underlying50 rfl rfl (by rfl) | exact q_load rfl Tryz.underlying50 rfl rfl (rd_imm hb2))) ?_
    refine l_eP rfl rfl rfl (eff_callP rfl rfl rfl Tryz.func160 (by kernel_rfl) rfl (fun w hw => needKey_calls b s hs [100, 111, 110, 101] p lv _ _ _ w _ rfl hp (picks_st1 (row b 53 (prC s lv p.next)) hw))) ?_ ?_
    · skip
      rintro _ Jx _ ⟨hJx, rfl, ax, ex, hbx, rfl⟩
      rw [bnd_bad hbx] at hR
      refine np_then (?_)
      exact np_body fun w hw => .inr ⟨_, rfl, Jx, _, ⟨hL.trans hJx, rfl, ax, ex, hR, rfl⟩, subC_st hw⟩
    rintro v62 J _ ⟨hJ, x62, p, lv, he62, hmu62, hp, rfl, rfl⟩
    have hL := hL.trans hJ
    rw [bnd_ok he62] at hR
    have hwv := hwv.mono hJ
    have hn58 := hn58.mono hJ
    have hb2 := hb2.mono hJ
    refine l_nil ?_
    refine n_then ?_
    refine t_seq ?_
    refine t_freezeT (f := ncC) (l := [c58]) (.slice (some ⟨b59, 0, none⟩) 1 1) (fun _ => rfl) (fun Jf hJf hvf => ?_)
    have hnf : NdAt Jf (.mk 12 false isin tt.text ws [] [x58]) ⟨12, false, isin, tt.text, wv, nilS', (.slice (some ⟨b59, 0, none⟩) 1 1)⟩ := NdAt.of (hwv.mono hJf) sl_nilS hvf (NdsAt.one (hn58.mono hJf))
    refine t_region ?_
    refine l_q rfl rfl rfl (q_load_rowA rfl Tryz.underlying29 ti29 rfl rfl rfl) ?_
    refine l_e0 rfl rfl ((by first | exact e_store_all rfl ti29 rfl rfl rfl (by first | exact chC_ones _ | exact pcC_ones _ | exact nc0_ones | exact kc_ones slb_one | exact tokC_ones _ | exact wv_ones nil_one nil_one nil_one | exact wv_ones hwv.one nil_one nil_one | exact hnf.ones | simp [Value.oneCell', str, u8]) rfl | exact e_store_agg rfl ti29 rfl rfl rfl (by first | exact chC_ones _ | exact pcC_ones _ | exact nc0_ones | exact kc_ones slb_one | exact tokC_ones _ | exact wv_ones nil_one nil_one nil_one | exact wv_ones hwv.one nil_one nil_one | exact hnf.ones | simp [Value.oneCell', str, u8]) rfl)) ?_
    rintro _ _ _ ⟨rfl, rfl⟩
    refine l_nil ?_
    refine n_then ?_
    refine t_ret ?_
    refine n_retGG (.inl rfl) rfl (by exact rg_row rfl Tryz.underlying29 ti29 rfl rfl (rg_nil)) (fun w' hw => ?_)
    -- leaf 0
    exact .inl ⟨_, rfl, Jf, _, ⟨hL.trans hJf, _, p, lv, hR, by omega, hp.mono hJf, ⟨_, rfl, hnf⟩, rfl⟩, subC_st hw⟩
end Go.Tri

/-
  The parser: case.
-/
namespace Go.Tri
open Go.Proofs Go.RowKit
set_option maxRecDepth 10000 in
set_option maxHeartbeats 4000000 in
theorem cases_calls (b : Nat) (s : List UInt8) (hs : s.length ≤ 65536) (B : PS → ReR Nd) (d : Nat) (hd : d ≤ 24) (hB : ParC 158 b s [.int .i64 ((d : Int) + 1)] B NdV 1) : ParC 163 b s [.int .i64 (d : Int)] (caseP s B) NdV 1 := by
  intro p lv I F w0 w R hR hp hw0
  have hL := Le.refl I
  obtain ⟨M, hM⟩ : ∃ M, M = muP s p := ⟨_, rfl⟩
  unfold caseP at hR
  have hm2 := mu_le hp.1
  refine enter Tryz.func163 rfl Tryz.ntmps163 rfl (hw0.self) ?_
  refine t_seq ?_
  refine t_region ?_
  refine l_e rfl rfl rfl (e_alloc rfl ti29 rfl) ?_
  rintro _ _ _ ⟨b4, rfl, rfl, rfl⟩
  refine l_heap (H' := row b4 29 (ncC nc0) :: _) ?_ (fun _ h => h)
  refine l_nil ?_
  refine n_then ?_
  refine t_seq ?_
  refine t_region ?_
  refine l_q rfl rfl rfl (q_move rfl rfl) ?_
  refine l_eP rfl rfl rfl (eff_callP rfl rfl rfl Tryz.func36 (by kernel_rfl) rfl (fun w hw => step_calls b s hs p lv _ _ _ w _ rfl hp (picks_st1 (row b 53 (prC s lv p.next)) hw))) ?_ ?_
  · skip
    rintro _ Jx _ ⟨hJx, rfl, ax, ex, hbx, rfl⟩
    rw [bnd_bad hbx] at hR
    refine np_then (?_)
    exact np_body fun w hw => .inr ⟨_, rfl, Jx, _, ⟨hL.trans hJx, rfl, ax, ex, hR, rfl⟩, subC_st hw⟩
  rintro v9 J _ ⟨hJ, x9, p, lv, he9, hmu9, hp, rfl, rfl⟩
  have hL := hL.trans hJ
  rw [bnd_ok he9] at hR
  refine l_nil ?_
  refine n_then ?_
  refine t_seq ?_
  refine t_region ?_
  refine l_q rfl rfl rfl (q_move rfl rfl) ?_
  refine l_eP rfl rfl rfl (eff_callP rfl rfl rfl Tryz.func167 (by kernel_rfl) rfl (fun w hw => pword_calls b s hs p lv _ _ _ w _ rfl hp (picks_st1 (row b 53 (prC s lv p.next)) hw))) ?_ ?_
  · skip
    rintro _ Jx _ ⟨hJx, rfl, ax, ex, hbx, rfl⟩
    rw [bnd_bad hbx] at hR
    refine np_then (?_)
    exact np_body fun w hw => .inr ⟨_, rfl, Jx, _, ⟨hL.trans hJx, rfl, ax, ex, hR, rfl⟩, subC_st hw⟩
  rintro v11 J _ ⟨hJ, x11, p, lv, he11, hmu11, hp, ⟨rfl, htl11⟩, rfl⟩
  have hL := hL.trans hJ
  rw [bnd_ok he11] at hR
  obtain ⟨nm, hnm⟩ : ∃ z, x11 = z := ⟨_, rfl⟩
  rw [hnm] at hR
  refine l_q rfl rfl rfl (q_build (pl := [(_, _), (_, _), (_, _), (_, _), (_, _), (_, _), (_, _)]) (cs := (ncC ⟨13, false, false, x11, nilS', nilS', nilS'⟩).toArray) rfl Tryz.underlying29 ti29 ⟨rfl, ⟨_, _, ti3⟩, rfl, ⟨_, _, ti4⟩, rfl, ⟨_, _, ti4⟩, rfl, ⟨_, _, ti9⟩, rfl, ⟨_, _, ti25⟩, rfl, ⟨_, _, ti26⟩, rfl, ⟨_, _, ti27⟩, trivial⟩ rfl rfl) ?_
  refine l_e rfl rfl rfl (e_alloc rfl ti29 rfl) ?_
  rintro _ _ _ ⟨b5, rfl, rfl, rfl⟩
  refine l_e0 rfl rfl ((by first | exact e_store_all rfl ti29 rfl rfl rfl (by first | exact chC_ones _ | exact pcC_ones _ | exact nc0_ones | exact kc_ones slb_one | exact wv_ones nil_one nil_one nil_one | exact hnf.ones | exact kc_ones nil_one | exact hn62.ones | simp [Value.oneCell', str, u8]) rfl | exact e_store_agg rfl ti29 rfl rfl rfl (by first | exact chC_ones _ | exact pcC_ones _ | exact nc0_ones | exact kc_ones slb_one | exact wv_ones nil_one nil_one nil_one | exact hnf.ones | exact kc_ones nil_one | exact hn62.ones | simp [Value.oneCell', str, u8]) rfl)) ?_
  rintro _ _ _ ⟨rfl, rfl⟩
  refine l_heap (H' := row b5 29 (ncC ⟨13, false, false, nm, nilS', nilS', nilS'⟩) :: _) ?_ (fun _ h => by rw [← hnm]; exact h)
  refine l_nil ?_
  refine n_then ?_
  refine t_seq ?_
  refine t_region ?_
  refine l_q rfl rfl rfl (q_move rfl rfl) ?_
  refine l_eP rfl rfl rfl (eff_callP rfl rfl rfl Tryz.func32 (by kernel_rfl) rfl (fun w hw => lines_calls b s hs p lv _ _ _ w _ rfl hp (picks_st1 (row b 53 (prC s lv p.next)) hw))) ?_ ?_
  · skip
    rintro _ Jx _ ⟨hJx, rfl, ax, ex, hbx, rfl⟩
    rw [bnd_bad hbx] at hR
    refine np_then (?_)
    exact np_body fun w hw => .inr ⟨_, rfl, Jx, _, ⟨hL.trans hJx, rfl, ax, ex, hR, rfl⟩, subC_st hw⟩
  rintro v14 J _ ⟨hJ, x14, p, lv, he14, hmu14, hp, ⟨rfl, hf, hk3⟩, rfl⟩
  have hL := hL.trans hJ
  rw [bnd_ok he14] at hR
  refine l_nil ?_
  refine n_then ?_
  refine t_seq ?_
  refine t_region ?_
  refine l_q rfl rfl rfl (q_move rfl rfl) ?_
  refine l_eP rfl rfl rfl (eff_callP rfl rfl rfl Tryz.func160 (by kernel_rfl) rfl (fun w hw => needKey_calls b s hs [105, 110] p lv _ _ _ w _ rfl hp (picks_st1 (row b 53 (prC s lv p.next)) hw))) ?_ ?_
  · skip
    rintro _ Jx _ ⟨hJx, rfl, ax, ex, hbx, rfl⟩
    rw [bnd_bad hbx] at hR
    refine np_then (?_)
    exact np_body fun w hw => .inr ⟨_, rfl, Jx, _, ⟨hL.trans hJx, rfl, ax, ex, hR, rfl⟩, subC_st hw⟩
  rintro v16 J _ ⟨hJ, x16, p, lv, he16, hmu16, hp, rfl, rfl⟩
  have hL := hL.trans hJ
  rw [bnd_ok he16] at hR
  refine l_nil ?_
  refine n_then ?_
  refine t_seq ?_
  refine t_region ?_
  refine l_q rfl rfl rfl (q_move rfl rfl) ?_
  refine l_eP rfl rfl rfl (eff_callP rfl rfl rfl Tryz.func32 (by kernel_rfl) rfl (fun w hw => lines_calls b s hs p lv _ _ _ w _ rfl hp (picks_st1 (row b 53 (prC s lv p.next)) hw))) ?_ ?_
  · skip
    rintro _ Jx _ ⟨hJx, rfl, ax, ex, hbx, rfl⟩
    rw [bnd_bad hbx] at hR
    refine np_then (?_)
    exact np_body fun w hw => .inr ⟨_, rfl, Jx, _, ⟨hL.trans hJx, rfl, ax, ex, hR, rfl⟩, subC_st hw⟩
  rintro v18 J _ ⟨hJ, x18, p, lv, he18, hmu18, hp, ⟨rfl, hf, hk3⟩, rfl⟩
  have hL := hL.trans hJ
  rw [bnd_ok he18] at hR
  rw [bnd_v] at hR
  refine l_nil ?_
  refine n_then ?_
  refine t_seq ?_
  refine t_seq ?_
  refine t_region ?_
  refine l_q rfl rfl rfl (q_assign rfl rfl) ?_
  refine l_nil ?_
  refine n_then ?_
  refine t_block ?_
  refine t_loopE (ι := PS × Value × Look × Value × List (List UInt8) × Value × List NC × List Nd × Nat × Bool) (fun zz => Le I zz.2.2.1 ∧ PSt s zz.1 zz.2.1 zz.2.2.1 ∧ NdsAt zz.2.2.1 zz.2.2.2.2.2.2.2.1 zz.2.2.2.2.2.2.1 ∧ 2 * muP s zz.1 + zz.2.2.2.2.2.2.2.1.length + zz.2.2.2.2.1.length ≤ 2 * M ∧ zz.2.2.2.2.2.2.2.1.length ≤ M ∧ muP s zz.1 + zz.2.2.2.2.2.2.2.1.length ≤ M ∧ (zz.2.2.2.2.2.2.2.2.2 = true → muP s zz.1 < zz.2.2.2.2.2.2.2.2.1 ∧ R = bndV (caseN s B zz.2.2.2.2.2.2.2.2.1 zz.2.2.2.2.1 zz.2.2.2.2.2.2.2.1 zz.1) (caseK s nm) ∧ Filled s zz.1) ∧ (zz.2.2.2.2.2.2.2.2.2 = false → R = bndV (ReR.ok (zz.2.2.2.2.1, zz.2.2.2.2.2.2.2.1) zz.1) (caseK s nm))) (fun zz => (if zz.2.2.2.2.2.2.2.2.2 then muP s zz.1 + 1 else 0)) (fun zz => [(6, .bool zz.2.2.2.2.2.2.2.2.2)]) [(0, _), (1, _), (4, _), (5, _)] (fun zz => zz.2.2.1) (fun zz => (tvec 9 1 stC zz.2.2.2.1 zz.2.2.2.2.1 :: tvec 29 7 ncC zz.2.2.2.2.2.1 zz.2.2.2.2.2.2.1 :: row b5 29 (ncC ⟨13, false, false, nm, zz.2.2.2.1, nilS', zz.2.2.2.2.2.1⟩) :: row b4 29 (ncC nc0) :: row b 53 (prC s zz.2.1 zz.1.next) :: F)) (p, lv, J, nilS', [], nilS', [], [], muP s p + 1, true) ?_ (sub_cons rfl sub_nil) (sub_cons rfl (sub_cons rfl (sub_cons rfl (sub_cons rfl sub_nil)))) (fun _ h => by dsimp only; exact subC_st (st_nilT 9 1 stC (st_nilT 29 7 ncC h))) ?_
  · try dsimp only
    exact ⟨hL, hp, NdsAt.nil, by simp only [List.length_nil]; omega, by simp only [List.length_nil]; omega, by simp only [List.length_nil]; omega, fun _ => ⟨Nat.lt_succ_self _, hR, hf⟩, fun h => by cases h⟩
  rintro ⟨p, lv, J, wv, ws, kv, cs, l, g, mo⟩ ⟨hL, hp, hns, hmu, hll, hmv, hmt, hmf⟩
  try dsimp only at *
  have hcl := hns.len
  refine t_seq ?_
  refine t_seq ?_
  refine t_qreg ?_
  refine s_q rfl rfl rfl (q_move rfl rfl) ?_
  refine s_q rfl rfl rfl (q_move rfl rfl) ?_
  refine s_and2 3 1 20 24 23 _ _ rfl rfl rfl rfl rfl rfl (fun h24 => by
      try simp at h24
      have hf := (hmt (by simpa using h24)).2.2
      refine s_g rfl rfl rfl rfl rfl rfl (q_move rfl rfl) ?_
      refine s_g rfl rfl rfl rfl rfl rfl (quiet_call rfl rfl rfl Tryz.func108 (by kernel_rfl) rfl ((fun w hw => keyF_pure b s [101, 115, 97, 99] p lv w hs hf hp.1 (rowI_of hw) (hp.2.2.mono hw.le)))) ?_
      refine s_g rfl rfl rfl rfl rfl rfl (q_not rfl rfl) ?_
      exact s_val rfl
    ) (wanted_n rfl) rfl rfl rfl ?_
  refine s_done ?_
  refine n_then ?_
  refine t_cond rfl (fun hc0 => ?_) (fun hc0 => ?_)
  · skip
    have hc0 : (mo && !keyB [101, 115, 97, 99] (headT s p)) = true := hc0
    rw [Bool.and_eq_true] at hc0
    obtain ⟨rfl, hce⟩ := hc0
    obtain ⟨hg, hR, hf⟩ := hmt rfl
    obtain ⟨g, rfl⟩ : ∃ g', g = g' + 1 := ⟨g - 1, by omega⟩
    rw [caseN, bnd_ok (now_filled hf), if_neg (by simpa using hce)] at hR
    obtain ⟨m1, hm1⟩ : ∃ z, z = muP s p := ⟨_, rfl⟩
    obtain ⟨m2, hm2x⟩ : ∃ z, z = 2 * muP s p + ws.length := ⟨_, rfl⟩
    refine t_skip ?_
    refine n_then ?_
    refine t_block ?_
    refine t_cutE (ι := PS × Value × Look) (fun zz => Le I zz.2.2 ∧ PSt s zz.1 zz.2.1 zz.2.2 ∧ NdsAt zz.2.2 l cs ∧ muP s zz.1 ≤ m1 ∧ R = bndV (bnd (wordR s) (fun x q => bnd (patN s (muP s q + 1) (ws ++ [x])) (caseTail s B (caseN s B g) l) q) zz.1) (caseK s nm)) (fun zz => []) [(6, _), (0, _), (1, _), (4, _), (5, _), (24, _)] (fun zz => zz.2.2) (fun zz => (tvec 9 1 stC wv ws :: tvec 29 7 ncC kv cs :: row b5 29 (ncC ⟨13, false, false, nm, wv, nilS', kv⟩) :: row b4 29 (ncC nc0) :: row b 53 (prC s zz.2.1 zz.1.next) :: F)) (sub_cons rfl (sub_cons rfl (sub_cons rfl (sub_cons rfl (sub_cons rfl (sub_cons rfl sub_nil)))))) ?_ ?_
    · skip
      refine t_seq ?_
      refine t_region ?_
      refine l_q rfl rfl rfl (q_move rfl rfl) ?_
      refine l_q rfl rfl rfl (quiet_call rfl rfl rfl Tryz.func55 (by kernel_rfl) rfl ((fun w hw => opF_pure b s [40] p lv w hs hf hp.1 (rowI_of hw) (hp.2.2.mono hw.le)))) ?_
      refine l_nil ?_
      refine n_then ?_
      refine t_cond rfl (fun hc1 => ?_) (fun hc1 => ?_)
      · skip
        have q1 : opB [40] (headT s p) = true := hc1
        rw [if_pos q1] at hR
        refine t_region ?_
        refine l_q rfl rfl rfl (q_move rfl rfl) ?_
        refine l_e rfl rfl rfl (eff_call rfl rfl rfl Tryz.func36 (by kernel_rfl) rfl (fun w hw => stepF_calls b s hs p lv _ _ _ w hf hp (picks_st1 (row b 53 (prC s lv p.next)) hw))) ?_
        rintro _ J _ ⟨hJ, rfl, p, lv, hst28, hma28, hmb28, hp, rfl⟩
        have hns := hns.mono hJ
        have hL := hL.trans hJ
        rw [← hst28] at hR
        have hmb := hmb28 (opB_kind q1)
        refine l_nil ?_
        refine n_cut ((p, lv, J)) ?_ (sub_nil) (sub_cons rfl (sub_cons rfl (sub_cons rfl (sub_cons rfl (sub_cons rfl (sub_cons rfl sub_nil)))))) (fun _ h => by try dsimp only; exact subC_st h)
        · try dsimp only
          exact ⟨hL, hp, hns, by omega, hR⟩
      · skip
        have q1 : ¬ opB [40] (headT s p) = true := by rw [show opB [40] (headT s p) = false from hc1]; simp
        rw [if_neg q1] at hR
        refine t_skip ?_
        refine n_cut ((p, lv, J)) ?_ (sub_nil) (sub_cons rfl (sub_cons rfl (sub_cons rfl (sub_cons rfl (sub_cons rfl (sub_cons rfl sub_nil)))))) (fun _ h => by try dsimp only; exact subC_st h)
        · try dsimp only
          exact ⟨hL, hp, hns, by omega, hR⟩
    rintro ⟨p, lv, J⟩ ⟨hL, hp, hns, hmy, hR⟩
    try dsimp only at *
    refine t_seq ?_
    refine t_draw [3, 4, 5, 7] [7] [row b5 29 (ncC ⟨13, false, false, nm, wv, nilS', kv⟩)] mo (by kernel_rfl) (fun _ _ _ _ _ h => h) ?_
    refine r_q0 0 (by kernel_rfl) rfl (Le.refl _) rfl rfl rfl (fun _ hI => q_fieldAddr rfl Tryz.underlying29 rfl rfl ti25 rfl rfl) ?_
    refine r_q0 1 (by kernel_rfl) rfl (Le.refl _) rfl rfl rfl (fun _ hI => q_load_row rfl Tryz.underlying25 rfl rfl (by rfl)) ?_
    refine r_q1 2 (by kernel_rfl) rfl (Le.refl _) rfl rfl rfl (q_move rfl rfl) ?_
    refine r_eP 3 (by kernel_rfl) (by kernel_rfl) rfl (Le.refl _) rfl rfl rfl (eff_callP rfl rfl rfl Tryz.func167 (by kernel_rfl) rfl (fun w hw => pword_calls b s hs p lv _ _ _ w _ rfl hp (picks_st1 (row b 53 (prC s lv p.next)) hw))) ?_ ?_
    · skip
      rintro _ Jx _ ⟨hJx, rfl, ax, ex, hbx, rfl⟩
      rw [bnd_bad hbx] at hR
      refine np_then (np_block (np_then (np_block (np_then (?_)))))
      exact np_body fun w hw => .inr ⟨_, rfl, Jx, _, ⟨hL.trans hJx, rfl, ax, ex, hR, rfl⟩, subC_st hw⟩
    rintro v32 J _ ⟨hJ, x32, p, lv, he32, hmu32, hp, ⟨rfl, htl32⟩, rfl⟩
    refine ⟨hJ, .inr SubC.sub, ?_⟩
    have hL := hL.trans hJ
    rw [bnd_ok he32] at hR
    have hns := hns.mono hJ
    refine r_e 4 (by kernel_rfl) (by kernel_rfl) rfl (hJ) rfl rfl rfl (e_buildSlice1 rfl Tryz.underlying25 ti9 rfl rfl rfl (by first | exact One.cells (by assumption) | exact One.cells hone | rfl) rfl) ?_
    rintro _ _ _ ⟨b33, rfl, rfl, rfl⟩
    refine ⟨Le.refl _, .inr SubC.sub, ?_⟩
    refine r_e 5 (by kernel_rfl) (by kernel_rfl) rfl (hJ) rfl rfl rfl (e_appendT (f := stC) (c := x32) rfl Tryz.underlying25 ti9 rfl rfl rfl rfl rfl rfl rfl (by first | exact stC_ones _ | exact hnb.ones | exact byC_ones _ | exact chC_ones _ | exact pcC_ones _ | simp [Value.oneCell', str, u8] | exact ones1 (by assumption)) (by simp only [maxLen]; omega) (by omega)) ?_
    rintro v34 _ _ ⟨rfl, rfl⟩
    refine ⟨Le.refl _, .inr SubC.sub, ?_⟩
    refine r_one v34 (fun hone => ?_)
    refine r_q0 6 (by kernel_rfl) rfl (hJ) rfl rfl rfl (fun _ hI => q_fieldAddr rfl Tryz.underlying29 rfl rfl ti25 rfl rfl) ?_
    refine r_e0 7 (by kernel_rfl) (by kernel_rfl) rfl (hJ) rfl rfl (e_storeS rfl ti25 rfl rfl (by first | exact ⟨rfl, rfl⟩ | assumption | exact hone) rfl (by first | (simp only [List.set_cons_succ, List.set_cons_zero]; rfl) | rfl)) ?_
    rintro _ _ _ ⟨rfl, rfl⟩
    refine ⟨Le.refl _, .inl rfl, ?_⟩
    refine r_heap (H' := row b5 29 (ncC ⟨13, false, false, nm, v34, nilS', kv⟩) :: _) ?_ (fun _ h => h)
    refine r_end (by kernel_rfl) ?_
    refine n_then ?_
    refine t_seq ?_
    refine t_block ?_
    refine t_loopE (ι := PS × Value × Look × Value × List (List UInt8) × Nat) (fun zz => Le I zz.2.2.1 ∧ PSt s zz.1 zz.2.1 zz.2.2.1 ∧ NdsAt zz.2.2.1 l cs ∧ 2 * muP s zz.1 + zz.2.2.2.2.1.length ≤ m2 ∧ muP s zz.1 + 1 ≤ m1 ∧ muP s zz.1 < zz.2.2.2.2.2 ∧ R = bndV (bndV (patN s zz.2.2.2.2.2 zz.2.2.2.2.1 zz.1) (caseTail s B (caseN s B g) l)) (caseK s nm)) (fun zz => muP s zz.1) (fun zz => []) [(6, _), (0, _), (1, _), (4, _), (5, _), (24, _)] (fun zz => zz.2.2.1) (fun zz => (tvec 9 1 stC zz.2.2.2.1 zz.2.2.2.2.1 :: tvec 29 7 ncC kv cs :: row b5 29 (ncC ⟨13, false, false, nm, zz.2.2.2.1, nilS', kv⟩) :: row b4 29 (ncC nc0) :: row b 53 (prC s zz.2.1 zz.1.next) :: F)) (p, lv, J, v34, ws ++ [x32], muP s p + 1) ?_ (sub_nil) (sub_cons rfl (sub_cons rfl (sub_cons rfl (sub_cons rfl (sub_cons rfl (sub_cons rfl sub_nil)))))) (fun _ h => subC_st h) ?_
    · try dsimp only
      exact ⟨hL, hp, hns, by rw [List.length_append, List.length_singleton]; omega, by omega, Nat.lt_succ_self _, hR⟩
    rintro ⟨p, lv, J, wv, ws, g2⟩ ⟨hL, hp, hns, hmw, hmx, hg2, hR⟩
    try dsimp only at *
    obtain ⟨g2, rfl⟩ : ∃ g', g2 = g' + 1 := ⟨g2 - 1, by omega⟩
    rw [patN] at hR
    refine t_seq ?_
    refine t_seq ?_
    refine t_region ?_
    refine l_q rfl rfl rfl (q_move rfl rfl) ?_
    refine l_eP rfl rfl rfl (eff_callP rfl rfl rfl Tryz.func55 (by kernel_rfl) rfl (fun w hw => op_calls b s hs [124] p lv _ _ _ w _ rfl hp (picks_st1 (row b 53 (prC s lv p.next)) hw))) ?_ ?_
    · skip
      rintro _ Jx _ ⟨hJx, rfl, ax, ex, hbx, rfl⟩
      rw [bnd_bad hbx] at hR
      refine np_then (np_then (np_then (np_block (np_then (np_block (np_then (np_block (np_then (?_)))))))))
      exact np_body fun w hw => .inr ⟨_, rfl, Jx, _, ⟨hL.trans hJx, rfl, ax, ex, hR, rfl⟩, subC_st hw⟩
    rintro v37 J _ ⟨hJ, x37, p, lv, he37, hmu37, hp, ⟨rfl, hf, rfl⟩, rfl⟩
    have hL := hL.trans hJ
    rw [bnd_ok he37] at hR
    have hns := hns.mono hJ
    refine l_nil ?_
    refine n_then ?_
    refine t_cond rfl (fun hc2 => ?_) (fun hc2 => ?_)
    · skip
      have q2 : opB [124] (headT s p) = true := hc2
      rw [if_pos q2] at hR
      refine t_skip ?_
      refine n_then ?_
      refine t_block ?_
      refine t_seq ?_
      refine t_region ?_
      refine l_q rfl rfl rfl (q_move rfl rfl) ?_
      refine l_e rfl rfl rfl (eff_call rfl rfl rfl Tryz.func36 (by kernel_rfl) rfl (fun w hw => stepF_calls b s hs p lv _ _ _ w hf hp (picks_st1 (row b 53 (prC s lv p.next)) hw))) ?_
      rintro _ J _ ⟨hJ, rfl, p, lv, hst39, hma39, hmb39, hp, rfl⟩
      have hns := hns.mono hJ
      have hL := hL.trans hJ
      rw [← hst39] at hR
      have hmb := hmb39 (opB_kind q2)
      refine l_nil ?_
      refine n_then ?_
      refine t_draw [3, 4, 5, 7] [7] [row b5 29 (ncC ⟨13, false, false, nm, wv, nilS', kv⟩)] mo (by kernel_rfl) (fun _ _ _ _ _ h => h) ?_
      refine r_q0 0 (by kernel_rfl) rfl (Le.refl _) rfl rfl rfl (fun _ hI => q_fieldAddr rfl Tryz.underlying29 rfl rfl ti25 rfl rfl) ?_
      refine r_q0 1 (by kernel_rfl) rfl (Le.refl _) rfl rfl rfl (fun _ hI => q_load_row rfl Tryz.underlying25 rfl rfl (by rfl)) ?_
      refine r_q1 2 (by kernel_rfl) rfl (Le.refl _) rfl rfl rfl (q_move rfl rfl) ?_
      refine r_eP 3 (by kernel_rfl) (by kernel_rfl) rfl (Le.refl _) rfl rfl rfl (eff_callP rfl rfl rfl Tryz.func167 (by kernel_rfl) rfl (fun w hw => pword_calls b s hs p lv _ _ _ w _ rfl hp (picks_st1 (row b 53 (prC s lv p.next)) hw))) ?_ ?_
      · skip
        rintro _ Jx _ ⟨hJx, rfl, ax, ex, hbx, rfl⟩
        rw [bnd_bad hbx] at hR
        refine np_block (np_then (np_block (np_then (np_block (np_then (np_block (np_then (?_))))))))
        exact np_body fun w hw => .inr ⟨_, rfl, Jx, _, ⟨hL.trans hJx, rfl, ax, ex, hR, rfl⟩, subC_st hw⟩
      rintro v43 J _ ⟨hJ, x43, p, lv, he43, hmu43, hp, ⟨rfl, htl43⟩, rfl⟩
      refine ⟨hJ, .inr SubC.sub, ?_⟩
      have hL := hL.trans hJ
      rw [bnd_ok he43] at hR
      have hns := hns.mono hJ
      refine r_e 4 (by kernel_rfl) (by kernel_rfl) rfl (hJ) rfl rfl rfl (e_buildSlice1 rfl Tryz.underlying25 ti9 rfl rfl rfl (by first | exact One.cells (by assumption) | exact One.cells hone | rfl) rfl) ?_
      rintro _ _ _ ⟨b44, rfl, rfl, rfl⟩
      refine ⟨Le.refl _, .inr SubC.sub, ?_⟩
      refine r_e 5 (by kernel_rfl) (by kernel_rfl) rfl (hJ) rfl rfl rfl (e_appendT (f := stC) (c := x43) rfl Tryz.underlying25 ti9 rfl rfl rfl rfl rfl rfl rfl (by first | exact stC_ones _ | exact hnb.ones | exact byC_ones _ | exact chC_ones _ | exact pcC_ones _ | simp [Value.oneCell', str, u8] | exact ones1 (by assumption)) (by simp only [maxLen]; omega) (by omega)) ?_
      rintro v45 _ _ ⟨rfl, rfl⟩
      refine ⟨Le.refl _, .inr SubC.sub, ?_⟩
      refine r_one v45 (fun hone => ?_)
      refine r_q0 6 (by kernel_rfl) rfl (hJ) rfl rfl rfl (fun _ hI => q_fieldAddr rfl Tryz.underlying29 rfl rfl ti25 rfl rfl) ?_
      refine r_e0 7 (by kernel_rfl) (by kernel_rfl) rfl (hJ) rfl rfl (e_storeS rfl ti25 rfl rfl (by first | exact ⟨rfl, rfl⟩ | assumption | exact hone) rfl (by first | (simp only [List.set_cons_succ, List.set_cons_zero]; rfl) | rfl)) ?_
      rintro _ _ _ ⟨rfl, rfl⟩
      refine ⟨Le.refl _, .inl rfl, ?_⟩
      refine r_heap (H' := row b5 29 (ncC ⟨13, false, false, nm, v45, nilS', kv⟩) :: _) ?_ (fun _ h => h)
      refine r_end (by kernel_rfl) ?_
      refine n_block ?_
      refine n_roundE ((p, lv, J, v45, ws ++ [x43], g2)) ?_ ?_ (sub_nil) (sub_cons rfl (sub_cons rfl (sub_cons rfl (sub_cons rfl (sub_cons rfl (sub_cons rfl sub_nil)))))) (fun _ h => by try dsimp only; exact subC_st h)
      · try dsimp only
        exact ⟨hL, hp, hns, by rw [List.length_append, List.length_singleton]; omega, by omega, by omega, hR⟩
      · try dsimp only
        omega
    · skip
      have q2 : ¬ opB [124] (headT s p) = true := by rw [show opB [124] (headT s p) = false from hc2]; simp
      rw [if_neg q2] at hR
      have hR : R = bndV (caseTail s B (caseN s B g) l ws p) (caseK s nm) := hR
      unfold caseTail at hR
      refine t_exit ?_
      refine n_exit_then ?_
      refine n_exit_then ?_
      refine n_exit_block ?_
      refine n_then ?_
      refine t_seq ?_
      refine t_region ?_
      refine l_q rfl rfl rfl (q_move rfl rfl) ?_
      refine l_eP rfl rfl rfl (eff_callP rfl rfl rfl Tryz.func159 (by kernel_rfl) rfl (fun w hw => needOp_calls b s hs [41] p lv _ _ _ w _ rfl hp (picks_st1 (row b 53 (prC s lv p.next)) hw))) ?_ ?_
      · skip
        rintro _ Jx _ ⟨hJx, rfl, ax, ex, hbx, rfl⟩
        rw [bnd_bad hbx] at hR
        refine np_then (np_block (np_then (np_block (np_then (?_)))))
        exact np_body fun w hw => .inr ⟨_, rfl, Jx, _, ⟨hL.trans hJx, rfl, ax, ex, hR, rfl⟩, subC_st hw⟩
      rintro v48 J _ ⟨hJ, x48, p, lv, he48, hmu48, hp, rfl, rfl⟩
      have hL := hL.trans hJ
      rw [bnd_ok he48] at hR
      have hns := hns.mono hJ
      refine l_nil ?_
      refine n_then ?_
      refine t_seq ?_
      refine t_region ?_
      refine l_q rfl rfl rfl (q_fieldAddr rfl Tryz.underlying29 rfl rfl ti25 rfl rfl) ?_
      refine l_q rfl rfl rfl (q_load_row rfl Tryz.underlying25 rfl rfl (by rfl)) ?_
      refine l_e rfl rfl rfl (e_buildSlice1 rfl Tryz.underlying25 ti9 rfl rfl rfl (by first | exact One.cells (by assumption) | exact One.cells hone | rfl) rfl) ?_
      rintro _ _ _ ⟨b51, rfl, rfl, rfl⟩
      refine l_e rfl rfl rfl (e_appendT (f := stC) (c := [41]) rfl Tryz.underlying25 ti9 rfl rfl rfl rfl rfl rfl rfl (by first | exact stC_ones _ | exact hnb.ones | exact byC_ones _ | exact chC_ones _ | exact pcC_ones _ | simp [Value.oneCell', str, u8] | exact ones1 (by assumption)) (by simp only [maxLen]; omega) (by omega)) ?_
      rintro v52 _ _ ⟨rfl, rfl⟩
      refine l_one v52 (fun hone => ?_)
      refine l_q rfl rfl rfl (q_fieldAddr rfl Tryz.underlying29 rfl rfl ti25 rfl rfl) ?_
      refine l_e0 rfl rfl (e_storeS rfl ti25 rfl rfl (by first | exact ⟨rfl, rfl⟩ | assumption | exact hone) rfl (by first | (simp only [List.set_cons_succ, List.set_cons_zero]; rfl) | rfl)) ?_
      rintro _ _ _ ⟨rfl, rfl⟩
      refine l_heap (H' := row b5 29 (ncC ⟨13, false, false, nm, v52, nilS', kv⟩) :: _) ?_ (fun _ h => h)
      refine l_nil ?_
      refine n_then ?_
      refine t_seq ?_
      refine t_region ?_
      refine l_q rfl rfl rfl (q_move rfl rfl) ?_
      refine l_eP rfl rfl rfl (eff_callP rfl rfl rfl Tryz.func32 (by kernel_rfl) rfl (fun w hw => lines_calls b s hs p lv _ _ _ w _ rfl hp (picks_st1 (row b 53 (prC s lv p.next)) hw))) ?_ ?_
      · skip
        rintro _ Jx _ ⟨hJx, rfl, ax, ex, hbx, rfl⟩
        rw [bnd_bad hbx] at hR
        refine np_then (np_block (np_then (np_block (np_then (?_)))))
        exact np_body fun w hw => .inr ⟨_, rfl, Jx, _, ⟨hL.trans hJx, rfl, ax, ex, hR, rfl⟩, subC_st hw⟩
      rintro v55 J _ ⟨hJ, x55, p, lv, he55, hmu55, hp, ⟨rfl, hf, hk3⟩, rfl⟩
      have hL := hL.trans hJ
      rw [bnd_ok he55] at hR
      have hns := hns.mono hJ
      rw [bnd_ok (now_filled hf)] at hR
      refine l_nil ?_
      refine n_then ?_
      refine t_seq ?_
      refine t_region ?_
      refine l_q rfl rfl rfl (q_build (pl := [(_, _), (_, _), (_, _), (_, _), (_, _), (_, _), (_, _)]) (cs := (ncC ⟨5, false, false, [], nilS', nilS', nilS'⟩).toArray) rfl Tryz.underlying29 ti29 ⟨rfl, ⟨_, _, ti3⟩, rfl, ⟨_, _, ti4⟩, rfl, ⟨_, _, ti4⟩, rfl, ⟨_, _, ti9⟩, rfl, ⟨_, _, ti25⟩, rfl, ⟨_, _, ti26⟩, rfl, ⟨_, _, ti27⟩, trivial⟩ rfl rfl) ?_
      refine l_e rfl rfl rfl (e_alloc rfl ti29 rfl) ?_
      rintro _ _ _ ⟨b7, rfl, rfl, rfl⟩
      refine l_e0 rfl rfl ((by first | exact e_store_all rfl ti29 rfl rfl rfl (by first | exact chC_ones _ | exact pcC_ones _ | exact nc0_ones | exact kc_ones slb_one | exact wv_ones nil_one nil_one nil_one | exact hnf.ones | exact kc_ones nil_one | exact hn62.ones | simp [Value.oneCell', str, u8]) rfl | exact e_store_agg rfl ti29 rfl rfl rfl (by first | exact chC_ones _ | exact pcC_ones _ | exact nc0_ones | exact kc_ones slb_one | exact wv_ones nil_one nil_one nil_one | exact hnf.ones | exact kc_ones nil_one | exact hn62.ones | simp [Value.oneCell', str, u8]) rfl)) ?_
      rintro _ _ _ ⟨rfl, rfl⟩
      refine l_heap (H' := row b7 29 (ncC ⟨5, false, false, [], nilS', nilS', nilS'⟩) :: _) ?_ (fun _ h => h)
      refine l_nil ?_
      refine n_then ?_
      refine t_cutE (ι := PS × Value × Look × NC × Nd) (fun zz => Le I zz.2.2.1 ∧ PSt s zz.1 zz.2.1 zz.2.2.1 ∧ NdsAt zz.2.2.1 l cs ∧ NdAt zz.2.2.1 zz.2.2.2.2 zz.2.2.2.1 ∧ 2 * muP s zz.1 + (ws.length + 1) + 1 ≤ m2 ∧ muP s zz.1 + 1 ≤ m1 ∧ R = bndV (caseEnd s (caseN s B g) (ws ++ [[41]]) (l ++ [zz.2.2.2.2]) zz.1) (caseK s nm)) (fun zz => []) [(6, _), (0, _), (1, _), (4, _), (5, _), (24, _), (37, _), (7, _)] (fun zz => zz.2.2.1) (fun zz => (tvec 9 1 stC v52 (ws ++ [[41]]) :: tvec 29 7 ncC kv cs :: row b7 29 (ncC zz.2.2.2.1) :: row b5 29 (ncC ⟨13, false, false, nm, v52, nilS', kv⟩) :: row b4 29 (ncC nc0) :: row b 53 (prC s zz.2.1 zz.1.next) :: F)) (sub_cons rfl (sub_cons rfl (sub_cons rfl (sub_cons rfl (sub_cons rfl (sub_cons rfl (sub_cons rfl (sub_cons rfl sub_nil)))))))) ?_ ?_
      · skip
        refine t_seq ?_
        refine t_region ?_
        refine l_q rfl rfl rfl (q_move rfl rfl) ?_
        refine l_q rfl rfl rfl (quiet_call rfl rfl rfl Tryz.func182 (by kernel_rfl) rfl ((fun w hw => beginsF_pure b s p lv w hs hf hp.1 (hp.2.1.mono hw.le) (rowI_of hw) (hp.2.2.mono hw.le)))) ?_
        refine l_nil ?_
        refine n_then ?_
        refine t_cond rfl (fun hc3 => ?_) (fun hc3 => ?_)
        · skip
          rw [if_pos hc3] at hR
          refine t_region ?_
          refine l_q rfl rfl rfl (q_move rfl rfl) ?_
          refine l_q rfl rfl rfl (q_move rfl rfl) ?_
          refine l_q rfl rfl rfl (q_add64 rfl rfl rfl (by omega)) ?_
          refine l_eP rfl rfl rfl (eff_callP rfl rfl rfl Tryz.func158 (by kernel_rfl) rfl (fun w hw => hB p lv _ _ _ w _ rfl hp (picks_st1 (row b 53 (prC s lv p.next)) hw))) ?_ ?_
          · skip
            rintro _ Jx _ ⟨hJx, rfl, ax, ex, hbx, rfl⟩
            rw [bnd_bad hbx] at hR
            refine np_then (np_block (np_then (np_block (np_then (?_)))))
            exact np_body fun w hw => .inr ⟨_, rfl, Jx, _, ⟨hL.trans hJx, rfl, ax, ex, hR, rfl⟩, subC_st hw⟩
          rintro v62 J _ ⟨hJ, x62, p, lv, he62, hmu62, hp, ⟨c62, rfl, hn62⟩, rfl⟩
          have hL := hL.trans hJ
          rw [bnd_ok he62] at hR
          have hns := hns.mono hJ
          refine l_e0 rfl rfl ((by first | exact e_store_all rfl ti29 rfl rfl rfl (by first | exact chC_ones _ | exact pcC_ones _ | exact nc0_ones | exact kc_ones slb_one | exact wv_ones nil_one nil_one nil_one | exact hnf.ones | exact kc_ones nil_one | exact hn62.ones | simp [Value.oneCell', str, u8]) rfl | exact e_store_agg rfl ti29 rfl rfl rfl (by first | exact chC_ones _ | exact pcC_ones _ | exact nc0_ones | exact kc_ones slb_one | exact wv_ones nil_one nil_one nil_one | exact hnf.ones | exact kc_ones nil_one | exact hn62.ones | simp [Value.oneCell', str, u8]) rfl)) ?_
          rintro _ _ _ ⟨rfl, rfl⟩
          refine l_heap (H' := row b7 29 (ncC c62) :: _) ?_ (fun _ h => h)
          refine l_nil ?_
          refine n_cut ((p, lv, J, c62, x62)) ?_ (sub_nil) (sub_cons rfl (sub_cons rfl (sub_cons rfl (sub_cons rfl (sub_cons rfl (sub_cons rfl (sub_cons rfl (sub_cons rfl sub_nil)))))))) (fun _ h => by try dsimp only; exact subC_st h)
          · try dsimp only
            exact ⟨hL, hp, hns, hn62, by omega, by omega, hR⟩
        · skip
          rw [if_neg (by rw [hc3]; simp)] at hR
          refine t_skip ?_
          refine n_cut ((p, lv, J, ⟨5, false, false, [], nilS', nilS', nilS'⟩, ndK 5 [])) ?_ (sub_nil) (sub_cons rfl (sub_cons rfl (sub_cons rfl (sub_cons rfl (sub_cons rfl (sub_cons rfl (sub_cons rfl (sub_cons rfl sub_nil)))))))) (fun _ h => by try dsimp only; exact subC_st h)
          · try dsimp only
            exact ⟨hL, hp, hns, NdAt.kids sl_nilS NdsAt.nil, by omega, by omega, hR⟩
      rintro ⟨p, lv, J, cb, nb⟩ ⟨hL, hp, hns, hnb, hmz, hmq, hR⟩
      try dsimp only at *
      unfold caseEnd at hR
      have hwl : (ws ++ [([41] : List UInt8)]).length = ws.length + 1 := by simp
      refine t_seq ?_
      refine t_region ?_
      refine l_q rfl rfl rfl (q_fieldAddr rfl Tryz.underlying29 rfl rfl ti27 rfl rfl) ?_
      refine l_q rfl rfl rfl (q_load_row rfl Tryz.underlying27 rfl rfl (by rfl)) ?_
      refine l_q rfl rfl rfl (q_load_rowA rfl Tryz.underlying29 ti29 rfl rfl rfl) ?_
      refine l_e rfl rfl rfl (e_buildSlice1 rfl Tryz.underlying27 ti29 rfl rfl rfl (by first | exact One.cells (by assumption) | exact One.cells hone | rfl) rfl) ?_
      rintro _ _ _ ⟨b66, rfl, rfl, rfl⟩
      refine l_e rfl rfl rfl (e_appendT (f := ncC) (c := cb) rfl Tryz.underlying27 ti29 rfl rfl rfl rfl rfl rfl rfl (by first | exact stC_ones _ | exact hnb.ones | exact byC_ones _ | exact chC_ones _ | exact pcC_ones _ | simp [Value.oneCell', str, u8] | exact ones1 (by assumption)) (by simp only [maxLen]; omega) (by omega)) ?_
      rintro v67 _ _ ⟨rfl, rfl⟩
      refine l_one v67 (fun hone => ?_)
      refine l_q rfl rfl rfl (q_fieldAddr rfl Tryz.underlying29 rfl rfl ti27 rfl rfl) ?_
      refine l_e0 rfl rfl (e_storeS rfl ti27 rfl rfl (by first | exact ⟨rfl, rfl⟩ | assumption | exact hone) rfl (by first | (simp only [List.set_cons_succ, List.set_cons_zero]; rfl) | rfl)) ?_
      rintro _ _ _ ⟨rfl, rfl⟩
      refine l_heap (H' := row b5 29 (ncC ⟨13, false, false, nm, v52, nilS', v67⟩) :: _) ?_ (fun _ h => h)
      refine l_nil ?_
      refine n_then ?_
      refine t_seq ?_
      refine t_region ?_
      refine l_q rfl rfl rfl (q_move rfl rfl) ?_
      refine l_eP rfl rfl rfl (eff_callP rfl rfl rfl Tryz.func55 (by kernel_rfl) rfl (fun w hw => op_calls b s hs [59, 59] p lv _ _ _ w _ rfl hp (picks_st1 (row b 53 (prC s lv p.next)) hw))) ?_ ?_
      · skip
        rintro _ Jx _ ⟨hJx, rfl, ax, ex, hbx, rfl⟩
        rw [bnd_bad hbx] at hR
        refine np_then (np_block (np_then (np_block (np_then (?_)))))
        exact np_body fun w hw => .inr ⟨_, rfl, Jx, _, ⟨hL.trans hJx, rfl, ax, ex, hR, rfl⟩, subC_st hw⟩
      rintro v70 J _ ⟨hJ, x70, p, lv, he70, hmu70, hp, ⟨rfl, hf, rfl⟩, rfl⟩
      have hL := hL.trans hJ
      rw [bnd_ok he70] at hR
      have hns := hns.mono hJ
      have hnb := hnb.mono hJ
      refine l_q rfl rfl rfl (q_assign rfl rfl) ?_
      refine l_nil ?_
      refine n_then ?_
      refine t_seq ?_
      refine t_region ?_
      refine l_q rfl rfl rfl (q_move rfl rfl) ?_
      refine l_nil ?_
      refine n_then ?_
      refine t_cond rfl (fun hc4 => ?_) (fun hc4 => ?_)
      · skip
        have q4 : opB [59, 59] (headT s p) = true := hc4
        rw [if_pos q4] at hR
        refine t_seq ?_
        refine t_region ?_
        refine l_q rfl rfl rfl (q_move rfl rfl) ?_
        refine l_e rfl rfl rfl (eff_call rfl rfl rfl Tryz.func36 (by kernel_rfl) rfl (fun w hw => stepF_calls b s hs p lv _ _ _ w hf hp (picks_st1 (row b 53 (prC s lv p.next)) hw))) ?_
        rintro _ J _ ⟨hJ, rfl, p, lv, hst73, hma73, hmb73, hp, rfl⟩
        have hns := hns.mono hJ
        have hnb := hnb.mono hJ
        have hL := hL.trans hJ
        rw [← hst73] at hR
        have hmb := hmb73 (opB_kind q4)
        refine l_nil ?_
        refine n_then ?_
        refine t_region ?_
        refine l_q rfl rfl rfl (q_move rfl rfl) ?_
        refine l_eP rfl rfl rfl (eff_callP rfl rfl rfl Tryz.func32 (by kernel_rfl) rfl (fun w hw => lines_calls b s hs p lv _ _ _ w _ rfl hp (picks_st1 (row b 53 (prC s lv p.next)) hw))) ?_ ?_
        · skip
          rintro _ Jx _ ⟨hJx, rfl, ax, ex, hbx, rfl⟩
          rw [bnd_bad hbx] at hR
          refine np_block (np_then (np_block (np_then (?_))))
          exact np_body fun w hw => .inr ⟨_, rfl, Jx, _, ⟨hL.trans hJx, rfl, ax, ex, hR, rfl⟩, subC_st hw⟩
        rintro v75 J _ ⟨hJ, x75, p, lv, he75, hmu75, hp, ⟨rfl, hf, hk3⟩, rfl⟩
        have hL := hL.trans hJ
        rw [bnd_ok he75] at hR
        have hns := hns.mono hJ
        have hnb := hnb.mono hJ
        refine l_nil ?_
        refine n_block ?_
        refine n_roundE ((p, lv, J, v52, ws ++ [[41]], v67, cs ++ [cb], l ++ [nb], g, true)) ?_ ?_ (sub_cons' rfl (congrArg Value.bool hc4) (sub_nil)) (sub_cons rfl (sub_cons rfl (sub_cons rfl (sub_cons rfl sub_nil)))) (fun _ h => by try dsimp only; exact subC_st h)
        · try dsimp only
          refine ⟨hL, hp, NdsAt.snoc hnb hns, by simp only [List.length_append, List.length_singleton]; omega, by simp only [List.length_append, List.length_singleton]; omega, by simp only [List.length_append, List.length_singleton]; omega, fun _ => ⟨by omega, hR, hf⟩, fun h => by cases h⟩
        · try dsimp only
          rw [if_pos rfl, if_pos rfl]
          omega
      · skip
        have q4 : ¬ opB [59, 59] (headT s p) = true := by rw [show opB [59, 59] (headT s p) = false from hc4]; simp
        rw [if_neg q4] at hR
        refine t_skip ?_
        refine n_block ?_
        refine n_roundE ((p, lv, J, v52, ws ++ [[41]], v67, cs ++ [cb], l ++ [nb], g, false)) ?_ ?_ (sub_cons' rfl (congrArg Value.bool hc4) (sub_nil)) (sub_cons rfl (sub_cons rfl (sub_cons rfl (sub_cons rfl sub_nil)))) (fun _ h => by try dsimp only; exact subC_st h)
        · try dsimp only
          refine ⟨hL, hp, NdsAt.snoc hnb hns, by simp only [List.length_append, List.length_singleton]; omega, by simp only [List.length_append, List.length_singleton]; omega, by simp only [List.length_append, List.length_singleton]; omega, fun h => (by cases h), fun _ => hR⟩
        · try dsimp only
          rw [if_pos rfl, if_neg (by simp)]
          omega
  · skip
    have hR : R = bndV (ReR.ok (ws, l) p) (caseK s nm) := by
      cases mo with
      | false => exact hmf rfl
      | true =>
        obtain ⟨hg, hR, hf⟩ := hmt rfl
        obtain ⟨g, rfl⟩ : ∃ g', g = g' + 1 := ⟨g - 1, by omega⟩
        have h : keyB [101, 115, 97, 99] (headT s p) = true := by have := hc0; simpa using this
        rw [hR, caseN, bnd_ok (now_filled hf), if_pos h]
    have hR : R = caseK s nm (ws, l) p := hR
    unfold caseK at hR
    refine t_exit ?_
    refine n_exit_then ?_
    refine n_exit_then ?_
    refine n_exit_block ?_
    refine n_then ?_
    refine t_seq ?_
    refine t_region ?_
    refine l_q rfl rfl rfl (q_move rfl rfl) ?_
    refine l_eP rfl rfl rfl (eff_callP rfl rfl rfl Tryz.func160 (by kernel_rfl) rfl (fun w hw => needKey_calls b s hs [101, 115, 97, 99] p lv _ _ _ w _ rfl hp (picks_st1 (row b 53 (prC s lv p.next)) hw))) ?_ ?_
    · skip
      rintro _ Jx _ ⟨hJx, rfl, ax, ex, hbx, rfl⟩
      rw [bnd_bad hbx] at hR
      refine np_then (?_)
      exact np_body fun w hw => .inr ⟨_, rfl, Jx, _, ⟨hL.trans hJx, rfl, ax, ex, hR, rfl⟩, subC_st hw⟩
    rintro v77 J _ ⟨hJ, x77, p, lv, he77, hmu77, hp, rfl, rfl⟩
    have hL := hL.trans hJ
    rw [bnd_ok he77] at hR
    have hns := hns.mono hJ
    refine l_nil ?_
    refine n_then ?_
    refine t_seq ?_
    refine t_freezeT (f := stC) (l := ws) wv (fun _ => rfl) (fun J1 hJ1 hw1 => ?_)
    refine t_freezeT (f := ncC) (l := cs) kv (fun _ => rfl) (fun J2 hJ2 hw2 => ?_)
    have hnf : NdAt J2 (.mk 13 false false nm ws [] l) ⟨13, false, false, nm, wv, nilS', kv⟩ := NdAt.of (hw1.mono hJ2) sl_nilS hw2 ((hns.mono hJ1).mono hJ2)
    refine t_region ?_
    refine l_q rfl rfl rfl (q_load_rowA rfl Tryz.underlying29 ti29 rfl rfl rfl) ?_
    refine l_e0 rfl rfl ((by first | exact e_store_all rfl ti29 rfl rfl rfl (by first | exact chC_ones _ | exact pcC_ones _ | exact nc0_ones | exact kc_ones slb_one | exact wv_ones nil_one nil_one nil_one | exact hnf.ones | exact kc_ones nil_one | exact hn62.ones | simp [Value.oneCell', str, u8]) rfl | exact e_store_agg rfl ti29 rfl rfl rfl (by first | exact chC_ones _ | exact pcC_ones _ | exact nc0_ones | exact kc_ones slb_one | exact wv_ones nil_one nil_one nil_one | exact hnf.ones | exact kc_ones nil_one | exact hn62.ones | simp [Value.oneCell', str, u8]) rfl)) ?_
    rintro _ _ _ ⟨rfl, rfl⟩
    refine l_nil ?_
    refine n_then ?_
    refine t_ret ?_
    refine n_retGG (.inl rfl) rfl (by exact rg_row rfl Tryz.underlying29 ti29 rfl rfl (rg_nil)) (fun w' hw => ?_)
    -- leaf 0
    exact .inl ⟨_, rfl, J2, _, ⟨(hL.trans hJ1).trans hJ2, _, p, lv, hR, by omega, (hp.mono hJ1).mono hJ2, ⟨_, rfl, hnf⟩, rfl⟩, subC_st hw⟩
end Go.Tri
