/-
  The statement: ParseGroups.
-/
import Derived.Test.YtomcodpgickmgaaGreatDoorQE2
import Derived.Test.YtomcodpgickmgaaGreatDoorPGrN
import Derived.Test.YtomcodpgickmgaaGreatDoorTriB20
namespace Go.Tri
open Go.Proofs Go.RowKit
set_option maxRecDepth 100000
/-- what is handed on as the i-th -/
def HdC (s : List UInt8) (i : Nat) (I : Look) (vs : List Value) : Prop := ∃ x c, (ycP s)[i]? = some x ∧ vs = [.agg (ncC c).toArray, .int .i64 (x.2 : Int)] ∧ NdAt I x.1 c
theorem HdC.two {s : List UInt8} : ∀ (i : Nat) (J : Look) (vs : List Value), HdC s i J vs → vs.length = 2 := fun i J vs h => by
  obtain ⟨x, c, _, rfl, _⟩ := h; rfl
theorem nd_kids {I : Look} {n : Nd} {c : NC} (h : NdAt I n c) : c.kind = n.kind ∧ ∃ cs, Sl I 7 c.kv (cs.map ncC) ∧ NdsAt I n.kids cs := by
  obtain ⟨k, nt, isin, nm, ws, rs, ks⟩ := n
  unfold NdAt at h
  obtain ⟨h1, _, _, _, _, _, cs, h7, h8⟩ := h
  exact ⟨h1, cs, h7, h8⟩
theorem nds_ones {I : Look} : ∀ {ks : List Nd} {cs : List NC}, NdsAt I ks cs → ∀ c ∈ cs, ∀ u ∈ ncC c, u.oneCell' = true
  | [], [], _, c, hc => by cases hc
  | k :: ks, c :: cs, h, x, hx => by
    unfold NdsAt at h
    rcases List.mem_cons.1 hx with h9 | h9
    · rw [h9]; exact h.1.ones
    · exact nds_ones h.2 x h9
  | [], _ :: _, h, _, _ => by unfold NdsAt at h; exact h.elim
  | _ :: _, [], h, _, _ => by unfold NdsAt at h; exact h.elim
theorem nds_app {I : Look} : ∀ {a b : List Nd} {x y : List NC}, NdsAt I a x → NdsAt I b y → NdsAt I (a ++ b) (x ++ y)
  | [], b, [], y, _, h => h
  | k :: a, b, c :: x, y, h1, h2 => by
    unfold NdsAt at h1
    rw [List.cons_append, List.cons_append]
    unfold NdsAt
    exact ⟨h1.1, nds_app h1.2 h2⟩
  | [], _, _ :: _, _, h, _ => by unfold NdsAt at h; exact h.elim
  | _ :: _, _, [], _, h, _ => by unfold NdsAt at h; exact h.elim
theorem flat_kids {n : Nd} (h : n.kind = 5) : flatP n = n.kids := by unfold flatP; rw [if_pos h]
theorem flat_one {n : Nd} (h : n.kind ≠ 5) : flatP n = [n] := by unfold flatP; rw [if_neg h]
theorem nobs_drop {s : List UInt8} (hu : EndNL s) (h : ¬ NoBs s) : 2 ≤ s.length ∧ s.drop (s.length - 2) = [92, 10] := by
  have h1 : 2 ≤ s.length ∧ nth s (s.length - 2) 0 = 92 := Classical.not_not.1 h
  refine ⟨h1.1, ?_⟩
  rw [drop_nth 0 (show s.length - 2 < s.length by omega), h1.2, show s.length - 2 + 1 = s.length - 1 by omega, drop_nth 0 (show s.length - 1 < s.length by omega), hu.2, List.drop_of_length_le (by omega)]
theorem sevG_one {v : Value} {cs : List NC} (h1 : cs.length = 1) (h2 : (nth cs 0 nc0).kind ≠ 6) : sevC v cs = nth cs 0 nc0 := by
  match cs, h1 with
  | [c], _ =>
    exact if_neg h2
theorem sevG_list {v : Value} {cs : List NC} (h : ¬ (cs.length = 1 ∧ (nth cs 0 nc0).kind ≠ 6)) : sevC v cs = listC v := by
  match cs with
  | [] => rfl
  | [c] =>
    show (if c.kind = 6 then listC v else c) = listC v
    by_cases h6 : c.kind = 6
    · rw [if_pos h6]
    · exact absurd ⟨rfl, h6⟩ h
  | _ :: _ :: _ => rfl
set_option maxRecDepth 10000 in
theorem commands_calls (s : List UInt8) (I : Look) (F : List HA) (w0 w : World) (hw0 : St w0 I F w) : Calls Tryz.prog 10 [str s].toArray w (fun e w' => ∃ v, e = .returned v ∧ ∃ I' H', (Le I I' ∧ F = H' ∧ ∃ b, v = .func (.func 19) #[] #[.pointer (some ⟨b, 0, none⟩)] ∧ CellI I' b 0 (str s)) ∧ St w I' H' w') := by
  refine enter Tryz.func10 rfl Tryz.ntmps10 rfl (hw0.self) ?_
  refine t_seq ?_
  refine t_region ?_
  refine l_e rfl rfl rfl (e_box rfl rfl (by first | exact One.cells (by assumption) | exact One.cells ⟨rfl, rfl⟩ | rfl)) ?_
  rintro _ _ _ ⟨b1, rfl, rfl, rfl⟩
  refine l_q rfl rfl rfl (q_assign rfl rfl) ?_
  refine l_nil ?_
  refine n_then ?_
  refine t_seq ?_
  refine t_freezeRow b1 (fun J hJ h1 => ?_)
  refine t_region ?_
  refine l_q rfl rfl rfl (q_makeFunc rfl rfl rfl) ?_
  refine l_q rfl rfl rfl (q_assign rfl rfl) ?_
  refine l_nil ?_
  refine n_then ?_
  refine t_ret ?_
  refine n_ret1 rfl rfl (fun w' hw => ?_)
  -- leaf 0
  exact ⟨_, rfl, J, _, ⟨hJ, rfl, b1, rfl, h1 0 _ rfl⟩, hw⟩
set_option maxRecDepth 10000 in
theorem commands_iter (s : List UInt8) (T : Txt s) (b1 : Nat) : IteratesV Tryz.prog 19 [.pointer (some ⟨b1, 0, none⟩)] (ycP s).length (HdC s) (fun I => CellI I b1 0 (str s) ∧ EnvI I) := by
  intro γ Cd Cx G II lid hY w0 g00 F w hcd0 hpre hw0
  obtain ⟨hb1, hG0⟩ := hpre
  refine enter Tryz.func19 rfl Tryz.ntmps19 rfl (hw0.self) ?_
  refine t_seq ?_
  refine t_region ?_
  refine l_q rfl rfl rfl (q_assign rfl rfl) ?_
  refine l_nil ?_
  refine n_then ?_
  refine t_block ?_
  refine t_loopE (ι := Nat × Nat × Nat × γ × Look) (fun zz => zz.1 ≤ s.length ∧ zz.2.1 ≤ (ycP s).length ∧ Cd zz.2.1 zz.2.2.2.1 ∧ Le (II g00) (II zz.2.2.2.1) ∧ Le (II zz.2.2.2.1) zz.2.2.2.2 ∧ (ycP s).drop zz.2.1 = ycN s zz.2.2.1 zz.1 ∧ s.length < zz.2.2.1 + zz.1) (fun zz => s.length - zz.1) (fun zz => [(3, .int .i64 (zz.1 : Int))]) [(0, _), (1, _)] (fun zz => zz.2.2.2.2) (fun zz => (F ++ G zz.2.2.2.1)) (0, 0, s.length + 1, g00, II g00) ?_ (sub_cons rfl sub_nil) (sub_cons rfl (sub_cons rfl sub_nil)) (fun _ h => subC_st h) ?_
  · try dsimp only
    exact ⟨Nat.zero_le _, Nat.zero_le _, hcd0, Le.refl _, Le.refl _, rfl, by omega⟩
  rintro ⟨a, nn, ff, g, J⟩ ⟨ha, hn, hcd, hg0, hgJ, hdr, hff⟩
  try dsimp only at *
  have hJ := hg0.trans hgJ
  obtain ⟨ff, rfl⟩ : ∃ f2, ff = f2 + 1 := ⟨ff - 1, by omega⟩
  refine t_block ?_
  refine t_seq ?_
  refine t_region ?_
  refine l_q rfl rfl rfl ((by first | exact q_load_row rfl Tryz.underlying9 rfl rfl (by rfl) | exact q_load rfl Tryz.underlying9 rfl rfl (rd_imm (hb1.mono hJ)))) ?_
  refine l_q rfl rfl rfl (q_move rfl rfl) ?_
  refine l_e rfl rfl rfl (eff_call rfl rfl rfl Tryz.func9 (by kernel_rfl) rfl (fun w hw => first_calls (s) (by have := T.len; omega) ((a : Int)) _ _ _ w (hG0.mono hJ) hw)) ?_
  rintro _ J12 _ ⟨hJ12, rfl, c12, rfl, hn12⟩
  have hgJ := hgJ.trans hJ12
  have hJ := hJ.trans hJ12
  refine l_q rfl rfl rfl (q_move rfl rfl) ?_
  refine l_q rfl rfl rfl (q_extract rfl rfl rfl) ?_
  refine l_q rfl rfl rfl (q_extract rfl rfl rfl) ?_
  refine l_q rfl rfl rfl (q_extract rfl rfl rfl) ?_
  refine l_q rfl rfl rfl (q_extract rfl rfl rfl) ?_
  refine l_q rfl rfl rfl (q_extract rfl rfl rfl) ?_
  refine l_e rfl rfl rfl (e_alloc rfl ti29 rfl) ?_
  rintro _ _ _ ⟨b4, rfl, rfl, rfl⟩
  refine l_e0 rfl rfl ((by first | exact e_store_all rfl ti29 rfl rfl rfl (by first | exact chC_ones _ | exact pcC_ones _ | exact hn12.ones | simp [Value.oneCell', str, u8]) rfl | exact e_store_agg rfl ti29 rfl rfl rfl (by first | exact chC_ones _ | exact pcC_ones _ | exact hn12.ones | simp [Value.oneCell', str, u8]) rfl)) ?_
  rintro _ _ _ ⟨rfl, rfl⟩
  refine l_heap (H' := row b4 29 (ncC c12) :: _) ?_ (fun _ h => h)
  refine l_q rfl rfl rfl (q_assign rfl rfl) ?_
  refine l_q rfl rfl rfl (q_assign rfl rfl) ?_
  refine l_q rfl rfl rfl (q_assign rfl rfl) ?_
  refine l_q rfl rfl rfl (q_assign rfl rfl) ?_
  refine l_nil ?_
  refine n_then ?_
  refine t_seq ?_
  refine t_seq ?_
  refine t_region ?_
  refine l_q rfl rfl rfl (q_move rfl rfl) ?_
  refine l_q rfl rfl rfl (q_neq rfl rfl rfl) ?_
  refine l_nil ?_
  refine n_then ?_
  refine t_cond rfl (fun hc0 => ?_) (fun hc0 => ?_)
  · skip
    try simp at hc0
    have he : (firstP' s a).err ≠ 0 := by omega
    have hyt := ys_get (hdr.trans (yc_err he))
    refine t_seq ?_
    refine t_region ?_
    refine l_q rfl rfl rfl (q_move rfl rfl) ?_
    refine l_q rfl rfl rfl (q_build (pl := [(_, _), (_, _), (_, _), (_, _), (_, _), (_, _), (_, _)]) (cs := (ncC nc0).toArray) rfl Tryz.underlying29 ti29 ⟨rfl, ⟨_, _, ti3⟩, rfl, ⟨_, _, ti4⟩, rfl, ⟨_, _, ti4⟩, rfl, ⟨_, _, ti9⟩, rfl, ⟨_, _, ti25⟩, rfl, ⟨_, _, ti26⟩, rfl, ⟨_, _, ti27⟩, trivial⟩ rfl rfl) ?_
    refine l_q rfl rfl rfl (q_move rfl rfl) ?_
    refine l_yieldV (i := nn) g (wanted_n rfl) rfl rfl rfl rfl rfl hY (⟨_, nc0, hyt.2.1, rfl, nd0_at⟩) hcd hgJ (fun g hcd hle => ?_) (fun g hcx hle => ?_)
    · skip
      have hle := hgJ.trans hle
      refine l_nil ?_
      refine n_then ?_
      refine t_ret ?_
      refine n_ret_then ?_
      refine n_ret_block ?_
      refine n_ret_then ?_
      refine n_ret_block ?_
      refine n_ret0 rfl (fun w' hw => ?_)
      -- leaf 0
      exact ⟨_, rfl, g, _, .inl (by have := ys_none hyt.2.2 (by omega); rw [← this]; exact hcd), hg0.trans hle, Le.refl _, hw0.rebase (subC_st hw)⟩
    · skip
      have hle := hgJ.trans hle
      refine l_nil ?_
      refine n_then ?_
      refine t_ret ?_
      refine n_ret_then ?_
      refine n_ret_block ?_
      refine n_ret_then ?_
      refine n_ret_block ?_
      refine n_ret0 rfl (fun w' hw => ?_)
      -- leaf 1
      exact ⟨_, rfl, g, _, .inr ⟨nn + 1, by omega, hcx⟩, hg0.trans hle, Le.refl _, hw0.rebase (subC_st hw)⟩
  · skip
    try simp at hc0
    have he : (firstP' s a).err = 0 := by omega
    refine t_skip ?_
    refine n_then ?_
    refine t_seq ?_
    refine t_seq ?_
    refine t_region ?_
    refine l_q rfl rfl rfl (q_move rfl rfl) ?_
    refine l_q rfl rfl rfl (q_not rfl rfl) ?_
    refine l_q rfl rfl rfl (q_move rfl rfl) ?_
    refine l_split (t := 26) rfl (fun hs0 => ?_) (fun hs0 => ?_)
    · skip
      try simp at hs0
      refine l_skip rfl rfl rfl rfl rfl rfl rfl ?_
      refine l_skip rfl rfl rfl rfl rfl rfl rfl ?_
      refine l_skip rfl rfl rfl rfl rfl rfl rfl ?_
      refine l_skip rfl rfl rfl rfl rfl rfl rfl ?_
      refine l_q rfl rfl rfl (q_pick rfl rfl rfl rfl) ?_
      refine l_nil ?_
      refine n_then ?_
      refine t_cond rfl (fun hc1 => ?_) (fun hc1 => ?_)
      · skip
        refine t_ret ?_
        refine n_ret_then ?_
        refine n_ret_block ?_
        refine n_ret_then ?_
        refine n_ret_block ?_
        refine n_ret0 rfl (fun w' hw => ?_)
        -- leaf 2
        have hnn := ys_none (hdr.trans (yc_no he hs0)) hn
        exact ⟨_, rfl, g, _, .inl (by rw [← hnn]; exact hcd), hg0, hgJ, hw0.rebase (subC_st hw)⟩
      · skip
        cases hc1
    · skip
      try simp at hs0
      obtain ⟨hx1, hx2⟩ := first_on T ha he hs0
      obtain ⟨hy1, hy2, hy3⟩ := ys_get (hdr.trans (yc_go he hs0))
      refine l_qg (wanted_g rfl rfl rfl rfl) rfl rfl (q_move rfl rfl) ?_
      refine l_qg (wanted_g rfl rfl rfl rfl) rfl rfl (q_load_rowA rfl Tryz.underlying29 ti29 rfl rfl rfl) ?_
      refine l_yieldV (i := nn) g (wanted_g rfl rfl rfl rfl) rfl rfl rfl rfl rfl hY (⟨_, c12, hy2, rfl, hn12⟩) hcd hgJ (fun g hcd hle => ?_) (fun g hcx hle => ?_)
      · skip
        refine l_qg (wanted_g rfl rfl rfl rfl) rfl rfl (q_not rfl rfl) ?_
        refine l_q rfl rfl rfl (q_pick rfl rfl rfl rfl) ?_
        refine l_nil ?_
        refine n_then ?_
        refine t_cond rfl (fun hc2 => ?_) (fun hc2 => ?_)
        · skip
          exact absurd hc2 (by decide)
        · skip
          refine t_skip ?_
          refine n_then ?_
          refine t_region ?_
          refine l_q rfl rfl rfl (q_move rfl rfl) ?_
          refine l_q rfl rfl rfl (q_assign rfl rfl) ?_
          refine l_nil ?_
          refine n_block ?_
          refine n_roundE (((firstP' s a).next, nn + 1, ff, g, II g)) ?_ ?_ (sub_cons rfl sub_nil) (sub_cons rfl (sub_cons rfl sub_nil)) (fun _ h => by try dsimp only; exact subC_st h)
          · try dsimp only
            exact ⟨hx2, by omega, hcd, hg0.trans (hgJ.trans hle), Le.refl _, hy3, by omega⟩
          · try dsimp only
            show s.length - (firstP' s a).next < s.length - a
            omega
      · skip
        refine l_qg (wanted_g rfl rfl rfl rfl) rfl rfl (q_not rfl rfl) ?_
        refine l_q rfl rfl rfl (q_pick rfl rfl rfl rfl) ?_
        refine l_nil ?_
        refine n_then ?_
        refine t_cond rfl (fun hc3 => ?_) (fun hc3 => ?_)
        · skip
          refine t_ret ?_
          refine n_ret_then ?_
          refine n_ret_block ?_
          refine n_ret_then ?_
          refine n_ret_block ?_
          refine n_ret0 rfl (fun w' hw => ?_)
          -- leaf 3
          exact ⟨_, rfl, g, _, .inr ⟨nn + 1, by omega, hcx⟩, hg0.trans (hgJ.trans hle), Le.refl _, hw0.rebase (subC_st hw)⟩
        · skip
          exact absurd hc3 (by decide)
set_option maxRecDepth 10000 in
set_option maxHeartbeats 2000000 in
theorem parseGroups_pure (s : List UInt8) (w : World) (hs : s.length ≤ 1048576) (hG : EnvI (look w)) : Pure Tryz.prog 4 [str s] w (.bool true) := by
  refine enterMN Tryz.func4 rfl Tryz.ntmps4 rfl (St.start w (look w) (Le.refl _)) ?_
  refine t_seq ?_
  refine t_region ?_
  refine l_e rfl rfl rfl (e_alloc rfl ti4 rfl) ?_
  rintro _ _ _ ⟨b2, rfl, rfl, rfl⟩
  refine l_nil ?_
  refine n_then ?_
  refine t_seq ?_
  refine t_seq ?_
  refine t_region ?_
  refine l_q rfl rfl rfl (quiet_call rfl rfl rfl Tryz.func8 (by kernel_rfl) rfl ((fun w hw => awake_pure w (hG.mono hw.le)))) ?_
  refine l_q rfl rfl rfl (q_not rfl rfl) ?_
  refine l_nil ?_
  refine n_then ?_
  refine t_cond rfl (fun hc0 => ?_) (fun hc0 => ?_)
  · skip
    try simp at hc0
  · skip
    try simp at hc0
    refine t_skip ?_
    refine n_then ?_
    refine t_seq ?_
    refine t_seq ?_
    refine t_qreg ?_
    refine s_q rfl rfl rfl (q_move rfl rfl) ?_
    refine s_q rfl rfl rfl (q_len_str rfl Tryz.underlying9 rfl) ?_
    refine s_q rfl rfl rfl (q_gtr rfl rfl rfl) ?_
    refine s_q rfl rfl rfl (q_move rfl rfl) ?_
    refine s_or2 2 3 18 21 20 _ _ rfl rfl rfl rfl rfl rfl (fun h21 => by
        try simp at h21
        refine s_g rfl rfl rfl rfl rfl rfl (q_move rfl rfl) ?_
        refine s_g rfl rfl rfl rfl rfl rfl (q_eql_str rfl rfl rfl) ?_
        exact s_val rfl
      ) (wanted_n rfl) rfl rfl rfl ?_
    refine s_q rfl rfl rfl (q_move rfl rfl) ?_
    refine s_or2 6 7 22 29 28 _ _ rfl rfl rfl rfl rfl rfl (fun h29 => by
        try simp at h29
        have hl0 : 0 < s.length := List.length_pos_iff.2 (fun h => by simp [h] at h29)
        refine s_g rfl rfl rfl rfl rfl rfl (q_move rfl rfl) ?_
        refine s_g rfl rfl rfl rfl rfl rfl (q_move rfl rfl) ?_
        refine s_g rfl rfl rfl rfl rfl rfl (q_len_str rfl Tryz.underlying9 rfl) ?_
        refine s_g rfl rfl rfl rfl rfl rfl (q_sub64 rfl rfl rfl (by omega)) ?_
        refine s_g rfl rfl rfl rfl rfl rfl ((by first | exact q_index_strN rfl Tryz.underlying9 rfl rfl (by omega) | exact q_index_str rfl Tryz.underlying9 rfl rfl (by omega))) ?_
        refine s_g rfl rfl rfl rfl rfl rfl (q_neq_u8c rfl rfl rfl rfl) ?_
        exact s_val rfl
      ) (wanted_n rfl) rfl rfl rfl ?_
    refine s_done ?_
    refine n_then ?_
    refine t_cond rfl (fun hc1 => ?_) (fun hc1 => ?_)
    · skip
      refine t_seq ?_
      refine t_region ?_
      refine l_e0 rfl rfl (e_storeS rfl ti4 rfl rfl (by first | exact ⟨rfl, rfl⟩ | assumption | exact hone) rfl (by first | (simp only [List.set_cons_succ, List.set_cons_zero]; rfl) | rfl)) ?_
      rintro _ _ _ ⟨rfl, rfl⟩
      refine l_nil ?_
      refine n_then ?_
      refine t_ret ?_
      refine n_ret_then ?_
      refine n_np_ret ?_
      refine n_retGM (bs := []) (.inl rfl) rfl (by exact res_cell rfl Tryz.underlying4 rfl (by first | exact rd_rowI rfl | exact (hvf.mono hJ53).rd (i := 0) (j := 0) (map_getD cs ncC nc0 hcp) rfl) (res_nil)) (fun w' hw => ?_)
      -- leaf 0
      exact ⟨rfl, hw.below⟩
    · skip
      have h1 := hc1
      rw [Bool.or_eq_false_iff, Bool.or_eq_false_iff, decide_eq_false_iff_not, decide_eq_false_iff_not, decide_eq_false_iff_not] at h1
      obtain ⟨⟨h11, h12⟩, h13⟩ := h1
      have h3 : s.length ≤ 3000 := by omega
      have hT : Txt s := ⟨⟨h12, by rw [show ((s.length : Int) - 1).toNat = s.length - 1 by omega] at h13; exact Classical.not_not.1 h13⟩, by omega⟩
      refine t_skip ?_
      refine n_then ?_
      refine t_seq ?_
      refine t_region ?_
      refine l_e rfl rfl rfl (e_alloc rfl ti27 rfl) ?_
      rintro _ _ _ ⟨b3, rfl, rfl, rfl⟩
      refine l_nil ?_
      refine n_then ?_
      refine t_seq ?_
      refine t_seq ?_
      refine t_region ?_
      refine l_q rfl rfl rfl (q_move rfl rfl) ?_
      refine l_e rfl rfl rfl (eff_call rfl rfl rfl Tryz.func10 (by kernel_rfl) rfl (fun w hw => commands_calls s _ _ _ w hw)) ?_
      rintro _ J31 _ ⟨hJ31, rfl, c31, rfl, hc31⟩
      refine l_nil ?_
      refine n_then ?_
      refine t_block ?_
      refine t_rangeV (γ := Value × List NC × List Nd × Look × Bool) (commands_iter s hT c31) rfl rfl Tryz.func19 (by kernel_rfl) rfl (fun nn zz => zz.2.2.2.2 = false ∧ Le J31 zz.2.2.2.1 ∧ NdsAt zz.2.2.2.1 zz.2.2.1 zz.2.1 ∧ zz.2.2.1 = flL ((ycP s).take nn) ∧ ∀ x ∈ (ycP s).take nn, x.2 = 0) (fun cc zz => (cc = .ret ∧ zz.2.2.2.2 = true)) [] (fun zz TT => (row b3 27 [zz.1] :: tvec 29 7 ncC zz.1 zz.2.1 :: row b2 4 [.bool zz.2.2.2.2] :: TT)) (fun _ _ => rfl) (fun zz => zz.2.2.2.1) [(0, _), (2, _), (14, _), (29, _), (3, _), (31, _)] (sub_cons rfl (sub_cons rfl (sub_cons rfl (sub_cons rfl (sub_cons rfl (sub_cons rfl sub_nil)))))) (.slice none 0 0, [], [], J31, false) ?_ ?_ ?_ ?_ rfl ?_ ?_ ?_ ?_
      · exact ⟨rfl, Le.refl _, NdsAt.nil, rfl, fun x hx => by cases hx⟩
      · exact ⟨hc31, hG.mono hJ31⟩
      · exact Le.refl _
      · exact fun _ h => subC_st (st_nilT 29 7 ncC h)
      · exact HdC.two
      · intro bl ready busy done dfr nn vs gg JV w0r FF hi hinv hJV hrs hbz
        obtain ⟨v, cs, l, J, rb⟩ := gg
        obtain ⟨hrb, hJl, hns, hl, hx0⟩ := hinv
        try dsimp only at *
        obtain ⟨x, c, hx, rfl, hnc⟩ := hi
        subst hrb
        have hns := hns.mono hJV
        have hsn := flL_snoc hx
        have hyl := ycP_len hT (nn + 1)
        rw [hsn, List.length_append, ← hl] at hyl
        have hcl := hns.len
        refine t_seq ?_
        refine t_region ?_
        refine l_e rfl rfl rfl (e_alloc rfl ti29 rfl) ?_
        rintro _ _ _ ⟨b4, rfl, rfl, rfl⟩
        refine l_e0 rfl rfl ((by first | exact e_store_all rfl ti29 rfl rfl rfl (by first | exact chC_ones _ | exact pcC_ones _ | exact hnc.ones | exact hn53.ones | exact hn0.ones | exact ncC_ones' (c := listC v) nil_one nil_one hvf.one | exact (hns.nth (i := 0) (by omega)).ones | simp [Value.oneCell', str, u8]) rfl | exact e_store_agg rfl ti29 rfl rfl rfl (by first | exact chC_ones _ | exact pcC_ones _ | exact hnc.ones | exact hn53.ones | exact hn0.ones | exact ncC_ones' (c := listC v) nil_one nil_one hvf.one | exact (hns.nth (i := 0) (by omega)).ones | simp [Value.oneCell', str, u8]) rfl)) ?_
        rintro _ _ _ ⟨rfl, rfl⟩
        refine l_heap (H' := row b4 29 (ncC c) :: _) ?_ (fun _ h => h)
        refine l_nil ?_
        refine n_then ?_
        refine t_region ?_
        refine l_q rfl rfl rfl (q_assign rfl rfl) ?_
        refine l_nil ?_
        refine n_begin (by rfl) hrs ?_
        refine t_block ?_
        refine t_seq ?_
        refine t_seq ?_
        refine t_region ?_
        refine l_q rfl rfl rfl (q_move rfl rfl) ?_
        refine l_q rfl rfl rfl (q_neq rfl rfl rfl) ?_
        refine l_nil ?_
        refine n_then ?_
        refine t_cond rfl (fun hc2 => ?_) (fun hc2 => ?_)
        · skip
          try simp at hc2
          refine t_seq ?_
          refine t_region ?_
          refine l_e0 rfl rfl (e_storeS rfl ti4 rfl rfl (by first | exact ⟨rfl, rfl⟩ | assumption | exact hone) rfl (by first | (simp only [List.set_cons_succ, List.set_cons_zero]; rfl) | rfl)) ?_
          rintro _ _ _ ⟨rfl, rfl⟩
          refine l_nil ?_
          refine n_then ?_
          refine t_ret ?_
          refine n_ret_then ?_
          refine n_ret_block ?_
          refine n_rret (fun w' hw' => .inr ⟨rfl, .ret, ((v, cs, l, JV, true)), ?_, ?_, ?_⟩)
          · try dsimp only
            exact ⟨rfl, rfl⟩
          · exact Le.refl _
          · try dsimp only
            exact subC_st hw'
        · skip
          try simp at hc2
          have hxe : x.2 = 0 := by omega
          have hsx : ∀ y ∈ (ycP s).take (nn + 1), y.2 = 0 := fun y hy => by
            obtain ⟨hnl, hxx⟩ := List.getElem?_eq_some_iff.1 hx
            rw [List.take_succ_eq_append_getElem hnl] at hy
            rcases List.mem_append.1 hy with h9 | h9
            · exact hx0 y h9
            · rw [List.mem_singleton.1 h9, hxx]; exact hxe
          refine t_skip ?_
          refine n_then ?_
          refine t_seq ?_
          refine t_region ?_
          refine l_q rfl rfl rfl (q_fieldAddr rfl Tryz.underlying29 rfl rfl ti3 rfl rfl) ?_
          refine l_q rfl rfl rfl ((by first | exact q_load_row rfl Tryz.underlying3 rfl rfl (by rfl) | exact q_load rfl Tryz.underlying3 rfl rfl ((hvf.mono hJ53).rd (i := 0) (j := 0) (map_getD cs ncC nc0 hcp) rfl))) ?_
          refine l_q rfl rfl rfl (q_eql rfl rfl rfl) ?_
          refine l_nil ?_
          refine n_then ?_
          refine t_cond rfl (fun hc3 => ?_) (fun hc3 => ?_)
          · skip
            try simp at hc3
            obtain ⟨hck, cks, hkc, hnk⟩ := nd_kids hnc
            have hk5 : x.1.kind = 5 := by omega
            rw [flat_kids hk5] at hyl
            have hkl := hnk.len
            refine t_region ?_
            refine l_q rfl rfl rfl ((by first | exact q_load_row rfl Tryz.underlying27 rfl rfl (by rfl) | exact q_load rfl Tryz.underlying27 rfl rfl ((hvf.mono hJ53).rd (i := 0) (j := 0) (map_getD cs ncC nc0 hcp) rfl))) ?_
            refine l_q rfl rfl rfl (q_fieldAddr rfl Tryz.underlying29 rfl rfl ti27 rfl rfl) ?_
            refine l_q rfl rfl rfl ((by first | exact q_load_row rfl Tryz.underlying27 rfl rfl (by rfl) | exact q_load rfl Tryz.underlying27 rfl rfl ((hvf.mono hJ53).rd (i := 0) (j := 0) (map_getD cs ncC nc0 hcp) rfl))) ?_
            refine l_e rfl rfl rfl (e_appendSm (f := ncC) (l := cs) (ls := cks) rfl Tryz.underlying27 ti29 rfl rfl rfl rfl (hkc) rfl (fun _ => rfl) (fun x hx => nds_ones hnk x hx) (by simp only [maxLen]; omega) (by omega)) ?_
            rintro v42 _ _ ⟨rfl, rfl⟩
            refine l_one v42 (fun hone => ?_)
            refine l_e0 rfl rfl (e_storeS rfl ti27 rfl rfl (by first | exact ⟨rfl, rfl⟩ | assumption | exact hone) rfl (by first | (simp only [List.set_cons_succ, List.set_cons_zero]; rfl) | rfl)) ?_
            rintro _ _ _ ⟨rfl, rfl⟩
            refine l_nil ?_
            refine n_block ?_
            refine n_rnext (fun w' hw' => .inl ⟨rfl, ((v42, cs ++ cks, l ++ x.1.kids, JV, false)), ?_, ?_, ?_⟩)
            · try dsimp only
              refine ⟨rfl, hJl.trans hJV, nds_app hns hnk, by rw [hsn, flat_kids hk5, ← hl], fun y hy => ?_⟩
              exact hsx y hy
            · exact Le.refl _
            · try dsimp only
              exact subC_st hw'
          · skip
            try simp at hc3
            have hck := (nd_kids hnc).1
            have hk5 : x.1.kind ≠ 5 := by omega
            rw [flat_one hk5, List.length_singleton] at hyl
            refine t_draw [3, 4, 6, 7] [6, 7] [row b3 27 [v], row b4 29 (ncC c)] mo (by kernel_rfl) (fun _ _ _ _ _ h => h) ?_
            refine r_q0 0 (by kernel_rfl) rfl (Le.refl _) rfl rfl rfl (fun _ hI => (by first | exact q_load_row rfl Tryz.underlying27 rfl rfl (by rfl) | exact q_load rfl Tryz.underlying27 rfl rfl ((hvf.mono hJ53).rd (i := 0) (j := 0) (map_getD cs ncC nc0 hcp) rfl))) ?_
            refine r_len v (fun hshv _ => ?_)
            refine r_q0 1 (by kernel_rfl) rfl (Le.refl _) rfl rfl rfl (fun _ hI => (by first | exact q_load_rowA rfl Tryz.underlying29 ti29 rfl rfl rfl | exact q_load_agg rfl Tryz.underlying29 ti29 rfl rfl (hkv53.rds (i := 0) rfl) | exact q_load_agg rfl Tryz.underlying29 ti29 rfl rfl ((hvf.mono hJ53).rds (i := 0) (map_getD cs ncC nc0 hcp)))) ?_
            refine r_qf 2 (by kernel_rfl) rfl rfl rfl rfl (fun _ => (by first | exact q_lenV rfl Tryz.underlying27 rfl | exact q_len rfl Tryz.underlying27 rfl (Sl.lenOf hkv53 (List.length_map _)) | exact q_len rfl Tryz.underlying27 rfl (len_of hshv) | exact q_len rfl Tryz.underlying27 rfl (Sl.lenOf hvf (List.length_map _)))) ?_
            refine r_e 3 (by kernel_rfl) (by kernel_rfl) rfl (Le.refl _) rfl rfl rfl (e_buildSlice1 rfl Tryz.underlying27 ti29 rfl rfl rfl (by first | exact One.cells (by assumption) | exact One.cells hone | rfl) rfl) ?_
            rintro _ _ _ ⟨b46, rfl, rfl, rfl⟩
            refine ⟨Le.refl _, .inr SubC.sub, ?_⟩
            refine r_e 4 (by kernel_rfl) (by kernel_rfl) rfl (Le.refl _) rfl rfl rfl (e_appendT (f := ncC) (c := nc0) rfl Tryz.underlying27 ti29 rfl rfl rfl rfl rfl rfl rfl (by first | exact nc0_ones | exact byC_ones _ | exact chC_ones _ | exact pcC_ones _ | simp [Value.oneCell', str, u8] | exact ones1 (by assumption)) (by simp only [maxLen]; omega) (by omega)) ?_
            rintro v47 _ _ ⟨rfl, rfl⟩
            refine ⟨Le.refl _, .inr SubC.sub, ?_⟩
            have hlen47 : (cs ++ [nc0]).length = cs.length + 1 := by simp
            refine r_len v47 (fun hsh47 hone => ?_)
            refine r_qf 5 (by kernel_rfl) rfl rfl rfl rfl (fun _ => (by first | exact q_indexAddrVN rfl Tryz.underlying27 ti29 rfl rfl (by omega) | exact q_indexAddrN rfl Tryz.underlying27 ti29 rfl rfl (hsh47) (by omega) | exact q_indexAddrN rfl Tryz.underlying27 ti29 rfl rfl (Sl.shape hkv53 (List.length_map _)) (by omega) | exact q_indexAddrN rfl Tryz.underlying27 ti29 rfl rfl (Sl.shape hvf (List.length_map _)) (by omega) | exact q_indexAddrV rfl Tryz.underlying27 ti29 rfl rfl (by omega) | exact q_indexAddr rfl Tryz.underlying27 ti29 rfl rfl (hsh47) (by omega) | exact q_indexAddr rfl Tryz.underlying27 ti29 rfl rfl (Sl.shape hkv53 (List.length_map _)) (by omega) | exact q_indexAddr rfl Tryz.underlying27 ti29 rfl rfl (Sl.shape hvf (List.length_map _)) (by omega))) ?_
            refine r_two 6 7 (by kernel_rfl) (by kernel_rfl) ?_ ?_
            · skip
              refine x_e0 6 rfl rfl (Le.refl _) rfl rfl (e_storeSA (c) rfl ti29 rfl rfl (hnc.ones) (fun _ => rfl) (by simp) (by decide)) ?_
              rintro _ _ _ ⟨rfl, rfl⟩
              refine ⟨Le.refl _, .inl rfl, ?_⟩
              refine r_heap (H' := tvec 29 7 ncC v47 (cs ++ [c]) :: _) ?_ (fun _ h => by rw [set_snoc] at h; exact h)
              refine r_e0 7 (by kernel_rfl) (by kernel_rfl) rfl (Le.refl _) rfl rfl (e_storeS rfl ti27 rfl rfl (by first | exact ⟨rfl, rfl⟩ | assumption | exact hone) rfl (by first | (simp only [List.set_cons_succ, List.set_cons_zero]; rfl) | rfl)) ?_
              rintro _ _ _ ⟨rfl, rfl⟩
              refine ⟨Le.refl _, .inl rfl, ?_⟩
              refine r_heap (H' := row b3 27 [v47] :: _) ?_ (fun _ h => h)
              refine r_end (by kernel_rfl) ?_
              refine n_block ?_
              refine n_rnext (fun w' hw' => .inl ⟨rfl, ((v47, cs ++ [c], l ++ [x.1], JV, false)), ?_, ?_, ?_⟩)
              · try dsimp only
                refine ⟨rfl, hJl.trans hJV, nds_app hns (by unfold NdsAt; exact ⟨hnc, by unfold NdsAt; trivial⟩), by rw [hsn, flat_one hk5, ← hl], fun y hy => ?_⟩
                exact hsx y hy
              · exact Le.refl _
              · try dsimp only
                exact subC_st hw'
            · skip
              refine x_e0 7 rfl rfl (Le.refl _) rfl rfl (e_storeS rfl ti27 rfl rfl (by first | exact ⟨rfl, rfl⟩ | assumption | exact hone) rfl (by first | (simp only [List.set_cons_succ, List.set_cons_zero]; rfl) | rfl)) ?_
              rintro _ _ _ ⟨rfl, rfl⟩
              refine ⟨Le.refl _, .inl rfl, ?_⟩
              refine r_heap (H' := row b3 27 [v47] :: _) ?_ (fun _ h => h)
              refine r_e0 6 (by kernel_rfl) (by kernel_rfl) rfl (Le.refl _) rfl rfl (e_storeSA (c) rfl ti29 rfl rfl (hnc.ones) (fun _ => rfl) (by simp) (by decide)) ?_
              rintro _ _ _ ⟨rfl, rfl⟩
              refine ⟨Le.refl _, .inl rfl, ?_⟩
              refine r_heap (H' := tvec 29 7 ncC v47 (cs ++ [c]) :: _) ?_ (fun _ h => by rw [set_snoc] at h; exact h)
              refine r_end (by kernel_rfl) ?_
              refine n_block ?_
              refine n_rnext (fun w' hw' => .inl ⟨rfl, ((v47, cs ++ [c], l ++ [x.1], JV, false)), ?_, ?_, ?_⟩)
              · try dsimp only
                refine ⟨rfl, hJl.trans hJV, nds_app hns (by unfold NdsAt; exact ⟨hnc, by unfold NdsAt; trivial⟩), by rw [hsn, flat_one hk5, ← hl], fun y hy => ?_⟩
                exact hsx y hy
              · exact Le.refl _
              · try dsimp only
                exact subC_st hw'
      · skip
        intro bd gg JV hinv hle hJV
        obtain ⟨v, cs, l, J, rb⟩ := gg
        obtain ⟨hrb, hJl, hns, hl, hx0⟩ := hinv
        try dsimp only at *
        subst hrb
        rw [List.take_of_length_le (Nat.le_refl _)] at hl hx0
        obtain ⟨hg1, hg2⟩ := groups_law hT h3 hx0
        have hns := hns.mono hJV
        have hJl := hJl.trans hJV
        have hcl := hns.len
        refine n_block ?_
        refine n_then ?_
        refine t_seq ?_
        refine t_freezeT (f := ncC) (l := cs) v (fun _ => rfl) (fun Jf hJf hvf => ?_)
        have hns := hns.mono hJf
        refine t_region ?_
        refine l_q rfl rfl rfl (q_move rfl rfl) ?_
        refine l_q rfl rfl rfl (q_cat rfl rfl rfl (by first | omega | (simp only [List.length_append, List.length_cons, List.length_nil, List.length_take, List.length_drop]; omega))) ?_
        refine l_q rfl rfl rfl (q_cat rfl rfl rfl (by first | omega | (simp only [List.length_append, List.length_cons, List.length_nil, List.length_take, List.length_drop]; omega))) ?_
        refine l_e rfl rfl rfl (eff_call rfl rfl rfl Tryz.func9 (by kernel_rfl) rfl (fun w hw => first_calls (grS s) (by rw [grS_len]; omega) (0) _ _ _ w (hG.mono (hJ31.trans (hJl.trans hJf))) hw)) ?_
        rintro _ J53 _ ⟨hJ53, rfl, c53, rfl, hn53⟩
        obtain ⟨hk53, cks53, hkv53, hnk53⟩ := nd_kids hn53
        have hkl53 := hnk53.len
        refine l_q rfl rfl rfl (q_move rfl rfl) ?_
        refine l_q rfl rfl rfl (q_extract rfl rfl rfl) ?_
        refine l_q rfl rfl rfl (q_extract rfl rfl rfl) ?_
        refine l_q rfl rfl rfl (q_extract rfl rfl rfl) ?_
        refine l_q rfl rfl rfl (q_extract rfl rfl rfl) ?_
        refine l_q rfl rfl rfl (q_extract rfl rfl rfl) ?_
        refine l_e rfl rfl rfl (e_alloc rfl ti29 rfl) ?_
        rintro _ _ _ ⟨b6, rfl, rfl, rfl⟩
        refine l_e0 rfl rfl ((by first | exact e_store_all rfl ti29 rfl rfl rfl (by first | exact chC_ones _ | exact pcC_ones _ | exact hnc.ones | exact hn53.ones | exact hn0.ones | exact ncC_ones' (c := listC v) nil_one nil_one hvf.one | exact (hns.nth (i := 0) (by omega)).ones | simp [Value.oneCell', str, u8]) rfl | exact e_store_agg rfl ti29 rfl rfl rfl (by first | exact chC_ones _ | exact pcC_ones _ | exact hnc.ones | exact hn53.ones | exact hn0.ones | exact ncC_ones' (c := listC v) nil_one nil_one hvf.one | exact (hns.nth (i := 0) (by omega)).ones | simp [Value.oneCell', str, u8]) rfl)) ?_
        rintro _ _ _ ⟨rfl, rfl⟩
        refine l_heap (H' := row b6 29 (ncC c53) :: _) ?_ (fun _ h => h)
        refine l_q rfl rfl rfl (q_assign rfl rfl) ?_
        refine l_q rfl rfl rfl (q_assign rfl rfl) ?_
        refine l_q rfl rfl rfl (q_assign rfl rfl) ?_
        refine l_q rfl rfl rfl (q_assign rfl rfl) ?_
        refine l_nil ?_
        refine n_then ?_
        refine t_seq ?_
        refine t_seq ?_
        refine t_region ?_
        refine l_q rfl rfl rfl ((by first | exact q_load_row rfl Tryz.underlying27 rfl rfl (by rfl) | exact q_load rfl Tryz.underlying27 rfl rfl ((hvf.mono hJ53).rd (i := 0) (j := 0) (map_getD cs ncC nc0 hcp) rfl))) ?_
        refine l_q rfl rfl rfl ((by first | exact q_lenV rfl Tryz.underlying27 rfl | exact q_len rfl Tryz.underlying27 rfl (Sl.lenOf hkv53 (List.length_map _)) | exact q_len rfl Tryz.underlying27 rfl (len_of hshv) | exact q_len rfl Tryz.underlying27 rfl (Sl.lenOf hvf (List.length_map _)))) ?_
        refine l_q rfl rfl rfl (q_eql rfl rfl rfl) ?_
        refine l_nil ?_
        refine n_then ?_
        refine t_cond rfl (fun hc4 => ?_) (fun hc4 => ?_)
        · skip
          have hcs0 : cs.length = 0 := by have h9 := hc4; simp only [decide_eq_true_eq] at h9; omega
          refine t_seq ?_
          refine t_region ?_
          refine l_q rfl rfl rfl (q_move rfl rfl) ?_
          refine l_q rfl rfl rfl (q_eql rfl rfl rfl) ?_
          refine l_e0 rfl rfl (e_storeS rfl ti4 rfl rfl (by first | exact ⟨rfl, rfl⟩ | assumption | exact hone) rfl (by first | (simp only [List.set_cons_succ, List.set_cons_zero]; rfl) | rfl)) ?_
          rintro _ _ _ ⟨rfl, rfl⟩
          refine l_nil ?_
          refine n_then ?_
          refine t_ret ?_
          refine n_ret_then ?_
          refine n_np_ret ?_
          refine n_retGM (bs := [bd]) (.inl rfl) rfl (by exact res_cell rfl Tryz.underlying4 rfl (by first | exact rd_rowI rfl | exact (hvf.mono hJ53).rd (i := 0) (j := 0) (map_getD cs ncC nc0 hcp) rfl) (res_nil)) (fun w' hw => ?_)
          -- leaf 1
          refine ⟨?_, (hw.less (hJ31.trans (hJl.trans (hJf.trans hJ53)))).below⟩
          rw [hg1 (by rw [← hl]; exact List.eq_nil_of_length_eq_zero (by omega))]
          rfl
        · skip
          have hcs0 : cs.length ≠ 0 := by have h9 := hc4; simp only [decide_eq_false_iff_not] at h9; omega
          have hln : flL (ycP s) ≠ [] := fun h9 => by rw [← hl] at h9; rw [h9] at hcl; exact hcs0 hcl
          obtain ⟨hgA, hKd, hCl⟩ := hg2 hln
          refine t_skip ?_
          refine n_then ?_
          refine t_seq ?_
          refine t_seq ?_
          refine t_region ?_
          refine l_q rfl rfl rfl (q_move rfl rfl) ?_
          refine l_q rfl rfl rfl (q_eql rfl rfl rfl) ?_
          refine l_nil ?_
          refine n_then ?_
          refine t_cond rfl (fun hc5 => ?_) (fun hc5 => ?_)
          · skip
            try simp at hc5
            refine t_seq ?_
            refine t_region ?_
            refine l_e0 rfl rfl (e_storeS rfl ti4 rfl rfl (by first | exact ⟨rfl, rfl⟩ | assumption | exact hone) rfl (by first | (simp only [List.set_cons_succ, List.set_cons_zero]; rfl) | rfl)) ?_
            rintro _ _ _ ⟨rfl, rfl⟩
            refine l_nil ?_
            refine n_then ?_
            refine t_ret ?_
            refine n_ret_then ?_
            refine n_np_ret ?_
            refine n_retGM (bs := [bd]) (.inl rfl) rfl (by exact res_cell rfl Tryz.underlying4 rfl (by first | exact rd_rowI rfl | exact (hvf.mono hJ53).rd (i := 0) (j := 0) (map_getD cs ncC nc0 hcp) rfl) (res_nil)) (fun w' hw => ?_)
            -- leaf 2
            refine ⟨?_, (hw.less (hJ31.trans (hJl.trans (hJf.trans hJ53)))).below⟩
            rfl
          · skip
            try simp at hc5
            have hgB := hgA.resolve_left (by omega)
            refine t_skip ?_
            refine n_then ?_
            refine t_seq ?_
            refine t_seq ?_
            refine t_qreg ?_
            refine s_q rfl rfl rfl (q_move rfl rfl) ?_
            refine s_q rfl rfl rfl (q_neq rfl rfl rfl) ?_
            refine s_q rfl rfl rfl (q_move rfl rfl) ?_
            refine s_or2 2 2 68 71 70 _ _ rfl rfl rfl rfl rfl rfl (fun h71 => by
                try simp at h71
                refine s_g rfl rfl rfl rfl rfl rfl (q_move rfl rfl) ?_
                refine s_g rfl rfl rfl rfl rfl rfl (q_not rfl rfl) ?_
                exact s_val rfl
              ) (wanted_n rfl) rfl rfl rfl ?_
            refine s_q rfl rfl rfl (q_move rfl rfl) ?_
            refine s_or2 3 6 72 76 75 _ _ rfl rfl rfl rfl rfl rfl (fun h76 => by
                try simp at h76
                refine s_g rfl rfl rfl rfl rfl rfl (q_fieldAddr rfl Tryz.underlying29 rfl rfl ti3 rfl rfl) ?_
                refine s_g rfl rfl rfl rfl rfl rfl ((by first | exact q_load_row rfl Tryz.underlying3 rfl rfl (by rfl) | exact q_load rfl Tryz.underlying3 rfl rfl ((hvf.mono hJ53).rd (i := 0) (j := 0) (map_getD cs ncC nc0 hcp) rfl))) ?_
                refine s_g rfl rfl rfl rfl rfl rfl (q_neq rfl rfl rfl) ?_
                exact s_val rfl
              ) (wanted_n rfl) rfl rfl rfl ?_
            refine s_q rfl rfl rfl (q_move rfl rfl) ?_
            refine s_or2 4 11 77 82 81 _ _ rfl rfl rfl rfl rfl rfl (fun h82 => by
                try simp at h82
                refine s_g rfl rfl rfl rfl rfl rfl (q_fieldAddr rfl Tryz.underlying29 rfl rfl ti27 rfl rfl) ?_
                refine s_g rfl rfl rfl rfl rfl rfl ((by first | exact q_load_row rfl Tryz.underlying27 rfl rfl (by rfl) | exact q_load rfl Tryz.underlying27 rfl rfl ((hvf.mono hJ53).rd (i := 0) (j := 0) (map_getD cs ncC nc0 hcp) rfl))) ?_
                refine s_g rfl rfl rfl rfl rfl rfl ((by first | exact q_lenV rfl Tryz.underlying27 rfl | exact q_len rfl Tryz.underlying27 rfl (Sl.lenOf hkv53 (List.length_map _)) | exact q_len rfl Tryz.underlying27 rfl (len_of hshv) | exact q_len rfl Tryz.underlying27 rfl (Sl.lenOf hvf (List.length_map _)))) ?_
                refine s_g rfl rfl rfl rfl rfl rfl (q_neq rfl rfl rfl) ?_
                exact s_val rfl
              ) (wanted_n rfl) rfl rfl rfl ?_
            refine s_done ?_
            refine n_then ?_
            refine t_cond rfl (fun hc6 => ?_) (fun hc6 => ?_)
            · skip
              try simp at hc6
              refine t_seq ?_
              refine t_region ?_
              refine l_quietHead 10 ?_
              refine s_q rfl rfl rfl (q_move rfl rfl) ?_
              refine s_q rfl rfl rfl (q_neq rfl rfl rfl) ?_
              refine s_q rfl rfl rfl (q_move rfl rfl) ?_
              refine s_and2 6 2 85 92 91 _ _ rfl rfl rfl rfl rfl rfl (fun h92 => by
                  try simp at h92
                  obtain ⟨hb2, hbd⟩ := nobs_drop hT.nl (hgB.resolve_right (fun h9 => by rw [h9] at h92; exact h92 rfl)).1
                  refine s_g rfl rfl rfl rfl rfl rfl (q_move rfl rfl) ?_
                  refine s_g rfl rfl rfl rfl rfl rfl (q_move rfl rfl) ?_
                  refine s_g rfl rfl rfl rfl rfl rfl (q_len_str rfl Tryz.underlying9 rfl) ?_
                  refine s_g rfl rfl rfl rfl rfl rfl (q_sub64 rfl rfl rfl (by omega)) ?_
                  refine s_g rfl rfl rfl rfl rfl rfl (q_slice_str_from rfl Tryz.underlying9 rfl rfl (by omega)) ?_
                  refine s_g rfl rfl rfl rfl rfl rfl (q_eql_str rfl rfl rfl) ?_
                  exact s_val rfl
                ) (wanted_n rfl) rfl rfl rfl ?_
              refine s_list ?_
              refine l_e0 rfl rfl (e_storeS rfl ti4 rfl rfl (by first | exact ⟨rfl, rfl⟩ | assumption | exact hone) rfl (by first | (simp only [List.set_cons_succ, List.set_cons_zero]; rfl) | rfl)) ?_
              rintro _ _ _ ⟨rfl, rfl⟩
              refine l_nil ?_
              refine n_then ?_
              refine t_ret ?_
              refine n_ret_then ?_
              refine n_np_ret ?_
              refine n_retGM (bs := [bd]) (.inl rfl) rfl (by exact res_cell rfl Tryz.underlying4 rfl (by first | exact rd_rowI rfl | exact (hvf.mono hJ53).rd (i := 0) (j := 0) (map_getD cs ncC nc0 hcp) rfl) (res_nil)) (fun w' hw => ?_)
              -- leaf 3
              refine ⟨?_, (hw.less (hJ31.trans (hJl.trans (hJf.trans hJ53)))).below⟩
              rcases hgB with ⟨hbs, hne⟩ | hfe
              · obtain ⟨hb2, hbd⟩ := nobs_drop hT.nl hbs
                rw [show ((s.length : Int) - 2).toNat = s.length - 2 by omega, hbd]
                simp [hne]
                rfl
              · exfalso
                rw [hfe] at hk53 hkl53 hc6
                have hk8 : c53.kind = 8 := hk53
                have hl1 : cks53.length = 1 := hkl53
                simp [hk8, hl1] at hc6
            · skip
              try simp at hc6
              obtain ⟨⟨⟨he0, hok0⟩, _⟩, hk1⟩ := hc6
              have hfe := hgB.resolve_left (fun h9 => h9.2 (by omega))
              rw [hfe] at hn53 hnk53
              obtain ⟨c0, rfl⟩ : ∃ c0, cks53 = [c0] := by
                match cks53, hk1 with
                | [c0], _ => exact ⟨c0, rfl⟩
                | [], h9 => simp at h9
                | _ :: _ :: _, h9 => simp at h9; omega
              have hn0 : NdAt J53 (severalP (flL (ycP s))) c0 := by
                have h9 : NdsAt J53 [severalP (flL (ycP s))] [c0] := hnk53
                unfold NdsAt at h9
                exact h9.1
              have hnw : NdAt J53 (severalP (flL (ycP s))) (sevC v cs) := by
                have h9 := several_at hvf hns
                rw [hl] at h9
                exact h9.mono hJ53
              have hcp : 0 < cs.length := by omega
              refine t_skip ?_
              refine n_then ?_
              refine t_seq ?_
              refine t_region ?_
              refine l_q rfl rfl rfl (q_fieldAddr rfl Tryz.underlying29 rfl rfl ti27 rfl rfl) ?_
              refine l_q rfl rfl rfl ((by first | exact q_load_row rfl Tryz.underlying27 rfl rfl (by rfl) | exact q_load rfl Tryz.underlying27 rfl rfl ((hvf.mono hJ53).rd (i := 0) (j := 0) (map_getD cs ncC nc0 hcp) rfl))) ?_
              refine l_q rfl rfl rfl ((by first | exact q_indexAddrVN rfl Tryz.underlying27 ti29 rfl rfl (by omega) | exact q_indexAddrN rfl Tryz.underlying27 ti29 rfl rfl (hsh47) (by omega) | exact q_indexAddrN rfl Tryz.underlying27 ti29 rfl rfl (Sl.shape hkv53 (List.length_map _)) (by omega) | exact q_indexAddrN rfl Tryz.underlying27 ti29 rfl rfl (Sl.shape hvf (List.length_map _)) (by omega) | exact q_indexAddrV rfl Tryz.underlying27 ti29 rfl rfl (by omega) | exact q_indexAddr rfl Tryz.underlying27 ti29 rfl rfl (hsh47) (by omega) | exact q_indexAddr rfl Tryz.underlying27 ti29 rfl rfl (Sl.shape hkv53 (List.length_map _)) (by omega) | exact q_indexAddr rfl Tryz.underlying27 ti29 rfl rfl (Sl.shape hvf (List.length_map _)) (by omega))) ?_
              refine l_q rfl rfl rfl ((by first | exact q_load_rowA rfl Tryz.underlying29 ti29 rfl rfl rfl | exact q_load_agg rfl Tryz.underlying29 ti29 rfl rfl (hkv53.rds (i := 0) rfl) | exact q_load_agg rfl Tryz.underlying29 ti29 rfl rfl ((hvf.mono hJ53).rds (i := 0) (map_getD cs ncC nc0 hcp)))) ?_
              refine l_e rfl rfl rfl (e_alloc rfl ti29 rfl) ?_
              rintro _ _ _ ⟨b11, rfl, rfl, rfl⟩
              refine l_e0 rfl rfl ((by first | exact e_store_all rfl ti29 rfl rfl rfl (by first | exact chC_ones _ | exact pcC_ones _ | exact hnc.ones | exact hn53.ones | exact hn0.ones | exact ncC_ones' (c := listC v) nil_one nil_one hvf.one | exact (hns.nth (i := 0) (by omega)).ones | simp [Value.oneCell', str, u8]) rfl | exact e_store_agg rfl ti29 rfl rfl rfl (by first | exact chC_ones _ | exact pcC_ones _ | exact hnc.ones | exact hn53.ones | exact hn0.ones | exact ncC_ones' (c := listC v) nil_one nil_one hvf.one | exact (hns.nth (i := 0) (by omega)).ones | simp [Value.oneCell', str, u8]) rfl)) ?_
              rintro _ _ _ ⟨rfl, rfl⟩
              refine l_heap (H' := row b11 29 (ncC c0) :: _) ?_ (fun _ h => h)
              refine l_nil ?_
              refine n_then ?_
              refine t_seq ?_
              refine t_region ?_
              refine l_q rfl rfl rfl ((by first | exact q_load_row rfl Tryz.underlying27 rfl rfl (by rfl) | exact q_load rfl Tryz.underlying27 rfl rfl ((hvf.mono hJ53).rd (i := 0) (j := 0) (map_getD cs ncC nc0 hcp) rfl))) ?_
              refine l_q rfl rfl rfl (q_build (pl := [(_, _), (_, _), (_, _), (_, _), (_, _), (_, _), (_, _)]) (cs := (ncC (listC v)).toArray) rfl Tryz.underlying29 ti29 ⟨rfl, ⟨_, _, ti3⟩, rfl, ⟨_, _, ti4⟩, rfl, ⟨_, _, ti4⟩, rfl, ⟨_, _, ti9⟩, rfl, ⟨_, _, ti25⟩, rfl, ⟨_, _, ti26⟩, rfl, ⟨_, _, ti27⟩, trivial⟩ rfl (by obtain ⟨A, c, h⟩ := Sl.lenOf hvf rfl; rw [h]; rfl)) ?_
              refine l_e rfl rfl rfl (e_alloc rfl ti29 rfl) ?_
              rintro _ _ _ ⟨b12, rfl, rfl, rfl⟩
              refine l_e0 rfl rfl ((by first | exact e_store_all rfl ti29 rfl rfl rfl (by first | exact chC_ones _ | exact pcC_ones _ | exact hnc.ones | exact hn53.ones | exact hn0.ones | exact ncC_ones' (c := listC v) nil_one nil_one hvf.one | exact (hns.nth (i := 0) (by omega)).ones | simp [Value.oneCell', str, u8]) rfl | exact e_store_agg rfl ti29 rfl rfl rfl (by first | exact chC_ones _ | exact pcC_ones _ | exact hnc.ones | exact hn53.ones | exact hn0.ones | exact ncC_ones' (c := listC v) nil_one nil_one hvf.one | exact (hns.nth (i := 0) (by omega)).ones | simp [Value.oneCell', str, u8]) rfl)) ?_
              rintro _ _ _ ⟨rfl, rfl⟩
              refine l_heap (H' := row b12 29 (ncC (listC v)) :: _) ?_ (fun _ h => h)
              refine l_nil ?_
              refine n_then ?_
              refine t_seq ?_
              refine t_seq ?_
              refine t_qreg ?_
              refine s_q rfl rfl rfl ((by first | exact q_load_row rfl Tryz.underlying27 rfl rfl (by rfl) | exact q_load rfl Tryz.underlying27 rfl rfl ((hvf.mono hJ53).rd (i := 0) (j := 0) (map_getD cs ncC nc0 hcp) rfl))) ?_
              refine s_q rfl rfl rfl ((by first | exact q_lenV rfl Tryz.underlying27 rfl | exact q_len rfl Tryz.underlying27 rfl (Sl.lenOf hkv53 (List.length_map _)) | exact q_len rfl Tryz.underlying27 rfl (len_of hshv) | exact q_len rfl Tryz.underlying27 rfl (Sl.lenOf hvf (List.length_map _)))) ?_
              refine s_q rfl rfl rfl (q_eql rfl rfl rfl) ?_
              refine s_q rfl rfl rfl (q_move rfl rfl) ?_
              refine s_and2 5 3 102 108 107 _ _ rfl rfl rfl rfl rfl rfl (fun h108 => by
                  try simp at h108
                  refine s_g rfl rfl rfl rfl rfl rfl ((by first | exact q_load_row rfl Tryz.underlying27 rfl rfl (by rfl) | exact q_load rfl Tryz.underlying27 rfl rfl ((hvf.mono hJ53).rd (i := 0) (j := 0) (map_getD cs ncC nc0 hcp) rfl))) ?_
                  refine s_g rfl rfl rfl rfl rfl rfl ((by first | exact q_indexAddrVN rfl Tryz.underlying27 ti29 rfl rfl (by omega) | exact q_indexAddrN rfl Tryz.underlying27 ti29 rfl rfl (hsh47) (by omega) | exact q_indexAddrN rfl Tryz.underlying27 ti29 rfl rfl (Sl.shape hkv53 (List.length_map _)) (by omega) | exact q_indexAddrN rfl Tryz.underlying27 ti29 rfl rfl (Sl.shape hvf (List.length_map _)) (by omega) | exact q_indexAddrV rfl Tryz.underlying27 ti29 rfl rfl (by omega) | exact q_indexAddr rfl Tryz.underlying27 ti29 rfl rfl (hsh47) (by omega) | exact q_indexAddr rfl Tryz.underlying27 ti29 rfl rfl (Sl.shape hkv53 (List.length_map _)) (by omega) | exact q_indexAddr rfl Tryz.underlying27 ti29 rfl rfl (Sl.shape hvf (List.length_map _)) (by omega))) ?_
                  refine s_g rfl rfl rfl rfl rfl rfl (q_fieldAddr rfl Tryz.underlying29 rfl rfl ti3 rfl rfl) ?_
                  refine s_g rfl rfl rfl rfl rfl rfl ((by first | exact q_load_row rfl Tryz.underlying3 rfl rfl (by rfl) | exact q_load rfl Tryz.underlying3 rfl rfl ((hvf.mono hJ53).rd (i := 0) (j := 0) (map_getD cs ncC nc0 hcp) rfl))) ?_
                  refine s_g rfl rfl rfl rfl rfl rfl (q_neq rfl rfl rfl) ?_
                  exact s_val rfl
                ) (wanted_n rfl) rfl rfl rfl ?_
              refine s_done ?_
              refine n_then ?_
              refine t_cond rfl (fun hc7 => ?_) (fun hc7 => ?_)
              · skip
                have hsev : sevC v cs = nth cs 0 nc0 := sevG_one (by simp at hc7; omega) (by simp at hc7; omega)
                refine t_region ?_
                refine l_q rfl rfl rfl ((by first | exact q_load_row rfl Tryz.underlying27 rfl rfl (by rfl) | exact q_load rfl Tryz.underlying27 rfl rfl ((hvf.mono hJ53).rd (i := 0) (j := 0) (map_getD cs ncC nc0 hcp) rfl))) ?_
                refine l_q rfl rfl rfl ((by first | exact q_indexAddrVN rfl Tryz.underlying27 ti29 rfl rfl (by omega) | exact q_indexAddrN rfl Tryz.underlying27 ti29 rfl rfl (hsh47) (by omega) | exact q_indexAddrN rfl Tryz.underlying27 ti29 rfl rfl (Sl.shape hkv53 (List.length_map _)) (by omega) | exact q_indexAddrN rfl Tryz.underlying27 ti29 rfl rfl (Sl.shape hvf (List.length_map _)) (by omega) | exact q_indexAddrV rfl Tryz.underlying27 ti29 rfl rfl (by omega) | exact q_indexAddr rfl Tryz.underlying27 ti29 rfl rfl (hsh47) (by omega) | exact q_indexAddr rfl Tryz.underlying27 ti29 rfl rfl (Sl.shape hkv53 (List.length_map _)) (by omega) | exact q_indexAddr rfl Tryz.underlying27 ti29 rfl rfl (Sl.shape hvf (List.length_map _)) (by omega))) ?_
                refine l_q rfl rfl rfl ((by first | exact q_load_rowA rfl Tryz.underlying29 ti29 rfl rfl rfl | exact q_load_agg rfl Tryz.underlying29 ti29 rfl rfl (hkv53.rds (i := 0) rfl) | exact q_load_agg rfl Tryz.underlying29 ti29 rfl rfl ((hvf.mono hJ53).rds (i := 0) (map_getD cs ncC nc0 hcp)))) ?_
                refine l_e0 rfl rfl ((by first | exact e_store_all rfl ti29 rfl rfl rfl (by first | exact chC_ones _ | exact pcC_ones _ | exact hnc.ones | exact hn53.ones | exact hn0.ones | exact ncC_ones' (c := listC v) nil_one nil_one hvf.one | exact (hns.nth (i := 0) (by omega)).ones | simp [Value.oneCell', str, u8]) rfl | exact e_store_agg rfl ti29 rfl rfl rfl (by first | exact chC_ones _ | exact pcC_ones _ | exact hnc.ones | exact hn53.ones | exact hn0.ones | exact ncC_ones' (c := listC v) nil_one nil_one hvf.one | exact (hns.nth (i := 0) (by omega)).ones | simp [Value.oneCell', str, u8]) rfl)) ?_
                rintro _ _ _ ⟨rfl, rfl⟩
                refine l_heap (H' := row b12 29 (ncC (nth cs 0 nc0)) :: _) ?_ (fun _ h => h)
                refine l_nil ?_
                refine n_then ?_
                refine t_seq ?_
                refine t_heap (H' := row b12 29 (ncC (sevC v cs)) :: row b11 29 (ncC c0) :: _) ?_ (fun _ h => by rw [hsev]; exact h)
                refine t_draw [5] [] [row b11 29 (ncC c0), row b12 29 (ncC (sevC v cs))] mo (by kernel_rfl) (fun _ _ _ _ _ h => h) ?_
                refine r_q1 0 (by kernel_rfl) rfl (Le.refl _) rfl rfl rfl ((by first | exact q_load_rowA rfl Tryz.underlying29 ti29 rfl rfl rfl | exact q_load_agg rfl Tryz.underlying29 ti29 rfl rfl (hkv53.rds (i := 0) rfl) | exact q_load_agg rfl Tryz.underlying29 ti29 rfl rfl ((hvf.mono hJ53).rds (i := 0) (map_getD cs ncC nc0 hcp)))) ?_
                refine r_q1 1 (by kernel_rfl) rfl (Le.refl _) rfl rfl rfl (quiet_call rfl rfl rfl Tryz.func11 (by kernel_rfl) rfl ((fun w hw => code_pure _ (severalP (flL (ycP s))) c0 w (Nat.le_refl _) (hn0.mono hw.le) hKd hCl))) ?_
                refine r_q1 2 (by kernel_rfl) rfl (Le.refl _) rfl rfl rfl ((by first | exact q_load_rowA rfl Tryz.underlying29 ti29 rfl rfl rfl | exact q_load_agg rfl Tryz.underlying29 ti29 rfl rfl (hkv53.rds (i := 0) rfl) | exact q_load_agg rfl Tryz.underlying29 ti29 rfl rfl ((hvf.mono hJ53).rds (i := 0) (map_getD cs ncC nc0 hcp)))) ?_
                refine r_q1 3 (by kernel_rfl) rfl (Le.refl _) rfl rfl rfl (quiet_call rfl rfl rfl Tryz.func11 (by kernel_rfl) rfl ((fun w hw => code_pure _ (severalP (flL (ycP s))) (sevC v cs) w (Nat.le_refl _) (hnw.mono hw.le) hKd hCl))) ?_
                refine r_q1 4 (by kernel_rfl) rfl (Le.refl _) rfl rfl rfl (q_eql_str rfl rfl rfl) ?_
                refine r_e0 5 (by kernel_rfl) (by kernel_rfl) rfl (Le.refl _) rfl rfl (e_storeS rfl ti4 rfl rfl (by first | exact ⟨rfl, rfl⟩ | assumption | exact hone) rfl (by first | (simp only [List.set_cons_succ, List.set_cons_zero]; rfl) | rfl)) ?_
                rintro _ _ _ ⟨rfl, rfl⟩
                refine ⟨Le.refl _, .inr SubC.sub, ?_⟩
                refine r_end (by kernel_rfl) ?_
                refine n_then ?_
                refine t_ret ?_
                refine n_np_ret ?_
                refine n_retGM (bs := [bd]) (.inl rfl) rfl (by exact res_cell rfl Tryz.underlying4 rfl (by first | exact rd_rowI rfl | exact (hvf.mono hJ53).rd (i := 0) (j := 0) (map_getD cs ncC nc0 hcp) rfl) (res_nil)) (fun w' hw => ?_)
                -- leaf 4
                refine ⟨?_, (hw.less (hJ31.trans (hJl.trans (hJf.trans hJ53)))).below⟩
                simp
                rfl
              · skip
                have hsev : sevC v cs = listC v := sevG_list (fun h9 => by simp [h9.1] at hc7; omega)
                refine t_skip ?_
                refine n_then ?_
                refine t_seq ?_
                refine t_heap (H' := row b12 29 (ncC (sevC v cs)) :: row b11 29 (ncC c0) :: _) ?_ (fun _ h => by rw [hsev]; exact h)
                refine t_draw [5] [] [row b11 29 (ncC c0), row b12 29 (ncC (sevC v cs))] mo (by kernel_rfl) (fun _ _ _ _ _ h => h) ?_
                refine r_q1 0 (by kernel_rfl) rfl (Le.refl _) rfl rfl rfl ((by first | exact q_load_rowA rfl Tryz.underlying29 ti29 rfl rfl rfl | exact q_load_agg rfl Tryz.underlying29 ti29 rfl rfl (hkv53.rds (i := 0) rfl) | exact q_load_agg rfl Tryz.underlying29 ti29 rfl rfl ((hvf.mono hJ53).rds (i := 0) (map_getD cs ncC nc0 hcp)))) ?_
                refine r_q1 1 (by kernel_rfl) rfl (Le.refl _) rfl rfl rfl (quiet_call rfl rfl rfl Tryz.func11 (by kernel_rfl) rfl ((fun w hw => code_pure _ (severalP (flL (ycP s))) c0 w (Nat.le_refl _) (hn0.mono hw.le) hKd hCl))) ?_
                refine r_q1 2 (by kernel_rfl) rfl (Le.refl _) rfl rfl rfl ((by first | exact q_load_rowA rfl Tryz.underlying29 ti29 rfl rfl rfl | exact q_load_agg rfl Tryz.underlying29 ti29 rfl rfl (hkv53.rds (i := 0) rfl) | exact q_load_agg rfl Tryz.underlying29 ti29 rfl rfl ((hvf.mono hJ53).rds (i := 0) (map_getD cs ncC nc0 hcp)))) ?_
                refine r_q1 3 (by kernel_rfl) rfl (Le.refl _) rfl rfl rfl (quiet_call rfl rfl rfl Tryz.func11 (by kernel_rfl) rfl ((fun w hw => code_pure _ (severalP (flL (ycP s))) (sevC v cs) w (Nat.le_refl _) (hnw.mono hw.le) hKd hCl))) ?_
                refine r_q1 4 (by kernel_rfl) rfl (Le.refl _) rfl rfl rfl (q_eql_str rfl rfl rfl) ?_
                refine r_e0 5 (by kernel_rfl) (by kernel_rfl) rfl (Le.refl _) rfl rfl (e_storeS rfl ti4 rfl rfl (by first | exact ⟨rfl, rfl⟩ | assumption | exact hone) rfl (by first | (simp only [List.set_cons_succ, List.set_cons_zero]; rfl) | rfl)) ?_
                rintro _ _ _ ⟨rfl, rfl⟩
                refine ⟨Le.refl _, .inr SubC.sub, ?_⟩
                refine r_end (by kernel_rfl) ?_
                refine n_then ?_
                refine t_ret ?_
                refine n_np_ret ?_
                refine n_retGM (bs := [bd]) (.inl rfl) rfl (by exact res_cell rfl Tryz.underlying4 rfl (by first | exact rd_rowI rfl | exact (hvf.mono hJ53).rd (i := 0) (j := 0) (map_getD cs ncC nc0 hcp) rfl) (res_nil)) (fun w' hw => ?_)
                -- leaf 5
                refine ⟨?_, (hw.less (hJ31.trans (hJl.trans (hJf.trans hJ53)))).below⟩
                simp
                rfl
      · skip
        intro bd cc gg JV hex hle hJV
        obtain ⟨v, cs, l, J, rb⟩ := gg
        obtain ⟨rfl, hrb⟩ := hex
        try dsimp only at *
        refine t_ret ?_
        refine n_ret_block ?_
        refine n_ret_then ?_
        refine n_np_ret ?_
        refine n_retGM (bs := [bd]) (.inl rfl) rfl (by exact res_cell rfl Tryz.underlying4 rfl (by first | exact rd_rowI rfl | exact (hvf.mono hJ53).rd (i := 0) (j := 0) (map_getD cs ncC nc0 hcp) rfl) (res_nil)) (fun w' hw => ?_)
        -- leaf 6
        exact ⟨by rw [hrb]; rfl, (hw.less (hJ31.trans (hle.trans hJV))).below⟩
end Go.Tri
