/-
  Lexemes one by one.
-/
import Derived.Test.YtjdcefhllbfacaaDoorAA3
namespace Go.Tri
open Go.Proofs Go.RowKit
theorem lex_last {L r : List Lx} {n : Nat} {b : Bool} (h1 : n < L.length) (h2 : L.drop (n + 1) = if b = true then [] else r) (hb : b = true) : L.length = n + 1 := by
  rw [if_pos hb] at h2
  have := congrArg List.length h2
  rw [List.length_drop] at this
  simp at this; omega
theorem lxVs_one {l : List Lx} : ∀ vs ∈ l.map lxV, vs.length = 1 := fun vs h => by
  obtain ⟨x, _, rfl⟩ := List.mem_map.1 h; rfl
set_option maxRecDepth 10000 in
theorem lexemes_iter (s : List UInt8) (b1 : Nat) (I0 : Look) (hs : s.length ≤ 1000000) (hG : EnvI I0) : Iterates Tryd.prog 32 [.pointer (some ⟨b1, 0, none⟩)] ((lexL s).map lxV) (fun I => CellI I b1 0 (str s) ∧ Le I0 I) := by
  intro γ Cd Cx G II lid hY w0 g00 F w hcd0 hpre hw0
  obtain ⟨hb1, hle0⟩ := hpre
  have hJ := Le.refl (II g00)
  have htl0 := trimL_le s blS
  refine enter Tryd.func32 rfl Tryd.ntmps32 rfl (hw0.self) ?_
  refine t_seq ?_
  refine t_region ?_
  refine l_q rfl rfl rfl ((by first | exact q_load_row rfl Tryd.underlying9 rfl rfl (by rfl) | exact q_load rfl Tryd.underlying9 rfl rfl (rd_imm (hb1.mono hJ)))) ?_
  refine l_q rfl rfl rfl (quiet_call rfl rfl rfl Tryd.func33 (by kernel_rfl) rfl ((fun w _ => trimL_pure s blS w (by decide) (by decide)))) ?_
  refine l_q rfl rfl rfl (q_assign rfl rfl) ?_
  refine l_nil ?_
  refine n_then ?_
  refine t_block ?_
  refine t_loopE (ι := List UInt8 × Nat × Nat × γ) (fun zz => zz.2.2.1 ≤ (lexL s).length ∧ Cd zz.2.2.1 zz.2.2.2 ∧ Le (II g00) (II zz.2.2.2) ∧ (lexL s).drop zz.2.2.1 = lexG zz.2.1 zz.1 ∧ zz.1.length < zz.2.1 ∧ zz.1.length ≤ s.length) (fun zz => zz.1.length) (fun zz => [(3, str zz.1)]) [(0, _), (1, _)] (fun zz => (II zz.2.2.2)) (fun zz => (F ++ G zz.2.2.2)) (Lib.trimLeftS s blS, s.length + 1, 0, g00) ?_ (sub_cons rfl sub_nil) (sub_cons rfl (sub_cons rfl sub_nil)) (fun _ h => subC_st h) ?_
  · try dsimp only
    exact ⟨Nat.zero_le _, hcd0, Le.refl _, rfl, by omega, htl0⟩
  rintro ⟨q, f, nn, g⟩ ⟨hn, hcd, hJ, hdr, hf, hql⟩
  try dsimp only at *
  obtain ⟨hn1, hx1, hx2⟩ := lex_next hdr hf
  refine t_seq ?_
  refine t_block ?_
  refine t_seq ?_
  refine t_region ?_
  refine l_q rfl rfl rfl (q_move rfl rfl) ?_
  refine l_q rfl rfl rfl (quiet_call rfl rfl rfl Tryd.func34 (by kernel_rfl) rfl ((fun w hw => first_pure q w (by omega) (hG.mono ((hle0.trans hJ).trans hw.le))))) ?_
  refine l_q rfl rfl rfl (q_move rfl rfl) ?_
  refine l_q rfl rfl rfl (q_extract rfl rfl rfl) ?_
  refine l_q rfl rfl rfl (q_extract rfl rfl rfl) ?_
  refine l_e rfl rfl rfl (e_alloc rfl ti57 rfl) ?_
  rintro _ _ _ ⟨b4, rfl, rfl, rfl⟩
  refine l_heap (H' := row b4 57 (lxC lx0) :: _) ?_ (fun _ h => h)
  refine l_e0 rfl rfl ((by first | exact e_store_all rfl ti57 rfl rfl rfl (by first | exact chC_ones _ | exact pcC_ones _ | exact lxC_ones _ | simp [Value.oneCell', str, u8]) rfl | exact e_store_agg rfl ti57 rfl rfl rfl (by first | exact chC_ones _ | exact pcC_ones _ | exact lxC_ones _ | simp [Value.oneCell', str, u8]) rfl)) ?_
  rintro _ _ _ ⟨rfl, rfl⟩
  refine l_heap (H' := row b4 57 (lxC (firstP q).1) :: _) ?_ (fun _ h => h)
  refine l_q rfl rfl rfl (q_assign rfl rfl) ?_
  refine l_nil ?_
  refine n_then ?_
  refine t_seq ?_
  refine t_seq ?_
  refine t_region ?_
  refine l_q rfl rfl rfl (q_move rfl rfl) ?_
  refine l_q rfl rfl rfl (q_load_rowA rfl Tryd.underlying57 ti57 rfl rfl rfl) ?_
  refine l_yield (i := nn) g (wanted_n rfl) rfl rfl rfl rfl rfl hY ((by rw [List.getElem?_map, hx1]; rfl)) hcd rfl (fun g hcd hle => ?_) (fun g hcx hle => ?_)
  · skip
    have hJ := hJ.trans hle
    refine l_quietHead 6 ?_
    refine s_q rfl rfl rfl (q_not rfl rfl) ?_
    refine s_q rfl rfl rfl (q_move rfl rfl) ?_
    refine s_or2 3 4 19 23 22 _ _ rfl rfl rfl rfl rfl rfl (fun h23 => by
        try simp at h23
        refine s_g rfl rfl rfl rfl rfl rfl (q_fieldAddr rfl Tryd.underlying57 rfl rfl ti3 rfl rfl) ?_
        refine s_g rfl rfl rfl rfl rfl rfl ((by first | exact q_load_row rfl Tryd.underlying3 rfl rfl (by rfl) | exact q_load rfl Tryd.underlying3 rfl rfl (rd_imm (hb1.mono hJ)))) ?_
        refine s_g rfl rfl rfl rfl rfl rfl (q_eql rfl rfl rfl) ?_
        exact s_val rfl
      ) (wanted_n rfl) rfl rfl rfl ?_
    refine s_list ?_
    refine l_quietHead 5 ?_
    refine s_q rfl rfl rfl (q_move rfl rfl) ?_
    refine s_or2 3 9 24 28 27 _ _ rfl rfl rfl rfl rfl rfl (fun h28 => by
        try simp at h28
        refine s_g rfl rfl rfl rfl rfl rfl (q_fieldAddr rfl Tryd.underlying57 rfl rfl ti3 rfl rfl) ?_
        refine s_g rfl rfl rfl rfl rfl rfl ((by first | exact q_load_row rfl Tryd.underlying3 rfl rfl (by rfl) | exact q_load rfl Tryd.underlying3 rfl rfl (rd_imm (hb1.mono hJ)))) ?_
        refine s_g rfl rfl rfl rfl rfl rfl (q_eql rfl rfl rfl) ?_
        exact s_val rfl
      ) (wanted_n rfl) rfl rfl rfl ?_
    refine s_list ?_
    refine l_nil ?_
    refine n_then ?_
    refine t_cond rfl (fun hc0 => ?_) (fun hc0 => ?_)
    · skip
      have hstt := stop_of hc0 rfl
      refine t_ret ?_
      refine n_ret_then ?_
      refine n_ret_block ?_
      refine n_ret_then ?_
      refine n_ret_then ?_
      refine n_ret_block ?_
      refine n_ret0 rfl (fun w' hw => ?_)
      -- leaf 0
      exact ⟨_, rfl, g, .inl (by rw [List.length_map, lex_last hn1 hx2 hstt]; exact hcd), hJ, hw0.rebase (subC_st hw)⟩
    · skip
      have hstf := stop_of hc0 rfl
      refine t_skip ?_
      refine n_then ?_
      have hadv := first_adv hstf
      refine t_region ?_
      refine l_q rfl rfl rfl (q_move rfl rfl) ?_
      refine l_q rfl rfl rfl (q_move rfl rfl) ?_
      refine l_q rfl rfl rfl (q_slice_str_from rfl Tryd.underlying9 rfl rfl (by omega)) ?_
      refine l_q rfl rfl rfl (q_assign rfl rfl) ?_
      refine l_nil ?_
      refine n_block ?_
      refine n_then ?_
      have hadv := first_adv hstf
      have htl1 := trimL_le (q.drop (firstP q).2) blS
      rw [List.length_drop] at htl1
      refine t_region ?_
      refine l_q rfl rfl rfl (q_move rfl rfl) ?_
      refine l_q rfl rfl rfl (quiet_call rfl rfl rfl Tryd.func33 (by kernel_rfl) rfl ((fun w _ => trimL_pure (q.drop (firstP q).2) blS w (by decide) (by decide)))) ?_
      refine l_q rfl rfl rfl (q_assign rfl rfl) ?_
      refine l_nil ?_
      refine n_roundE ((Lib.trimLeftS (q.drop (firstP q).2) blS, f - 1, nn + 1, g)) ?_ ?_ (sub_cons rfl sub_nil) (sub_cons rfl (sub_cons rfl sub_nil)) (fun _ h => by try dsimp only; exact subC_st h)
      · try dsimp only
        refine ⟨hn1, hcd, hJ, ?_, by omega, by omega⟩
        rw [hx2, if_neg (by rw [hstf]; simp)]
      · try dsimp only
        show (Lib.trimLeftS (q.drop (firstP q).2) blS).length < q.length
        omega
  · skip
    have hJ := hJ.trans hle
    refine l_quietHead 6 ?_
    refine s_q rfl rfl rfl (q_not rfl rfl) ?_
    refine s_q rfl rfl rfl (q_move rfl rfl) ?_
    refine s_or2 3 4 19 23 22 _ false rfl rfl rfl rfl rfl rfl (fun h23 => by
        exact absurd h23 (by decide)
      ) (wanted_n rfl) rfl rfl rfl ?_
    refine s_list ?_
    refine l_quietHead 5 ?_
    refine s_q rfl rfl rfl (q_move rfl rfl) ?_
    refine s_or2 3 9 24 28 27 _ false rfl rfl rfl rfl rfl rfl (fun h28 => by
        exact absurd h28 (by decide)
      ) (wanted_n rfl) rfl rfl rfl ?_
    refine s_list ?_
    refine l_nil ?_
    refine n_then ?_
    refine t_cond rfl (fun hc1 => ?_) (fun hc1 => ?_)
    · skip
      refine t_ret ?_
      refine n_ret_then ?_
      refine n_ret_block ?_
      refine n_ret_then ?_
      refine n_ret_then ?_
      refine n_ret_block ?_
      refine n_ret0 rfl (fun w' hw => ?_)
      -- leaf 1
      exact ⟨_, rfl, g, .inr ⟨nn + 1, (by rw [List.length_map]; omega), hcx⟩, hJ, hw0.rebase (subC_st hw)⟩
    · skip
      exact absurd hc1 (by simp)
set_option maxRecDepth 10000 in
theorem lexemes_calls (s : List UInt8) (I : Look) (F : List HA) (w0 w : World) (hw0 : St w0 I F w) : Calls Tryd.prog 16 [str s].toArray w (fun e w' => ∃ v, e = .returned v ∧ ∃ I' H', (Le I I' ∧ F = H' ∧ ∃ b, v = .func (.func 32) #[] #[.pointer (some ⟨b, 0, none⟩)] ∧ CellI I' b 0 (str s)) ∧ St w I' H' w') := by
  refine enter Tryd.func16 rfl Tryd.ntmps16 rfl (hw0.self) ?_
  refine t_seq ?_
  refine t_region ?_
  refine l_e rfl rfl rfl (e_box rfl rfl (by first | exact One.cells (by assumption) | rfl)) ?_
  rintro _ _ _ ⟨b1, rfl, rfl, rfl⟩
  refine l_q rfl rfl rfl (q_assign rfl rfl) ?_
  refine l_nil ?_
  refine n_then ?_
  refine t_seq ?_
  refine t_freezeRow b1 (fun J hJ h1 => ?_)
  refine t_region ?_
  refine l_q rfl rfl rfl (q_makeFunc rfl rfl rfl) ?_
  refine l_q rfl rfl rfl (q_assign rfl rfl) ?_
  refine l_nil ?_
  refine n_then ?_
  refine t_ret ?_
  refine n_ret1 rfl rfl (fun w' hw => ?_)
  -- leaf 0
  exact ⟨_, rfl, J, _, ⟨hJ, rfl, b1, rfl, h1 0 _ rfl⟩, hw⟩
set_option maxRecDepth 10000 in
theorem appendSeq_calls (s : List UInt8) (b : Nat) (I : Look) (F : List HA) (w0 w : World) (hs : s.length ≤ 1000000) (hG : EnvI I) (hb : CellI I b 0 (str s)) (hw0 : St w0 I F w) : Calls Tryd.prog 31 [.slice none 0 0, .func (.func 32) #[] #[.pointer (some ⟨b, 0, none⟩)]].toArray w (fun e w' => ∃ v, e = .returned v ∧ ∃ I' H', (Le I I' ∧ F = H' ∧ Sl I' 3 v ((lexL s).map lxC)) ∧ St w I' H' w') := by
  have hll0 := lexL_len s
  refine enterMN Tryd.func31 rfl Tryd.ntmps31 rfl (hw0.self) ?_
  refine t_seq ?_
  refine t_region ?_
  refine l_e rfl rfl rfl (e_box rfl rfl (by first | exact One.cells (by assumption) | exact One.cells hone | rfl)) ?_
  rintro _ _ _ ⟨b2, rfl, rfl, rfl⟩
  refine l_q rfl rfl rfl (q_assign rfl rfl) ?_
  refine l_nil ?_
  refine n_then ?_
  refine t_seq ?_
  refine t_seq ?_
  refine t_region ?_
  refine l_q rfl rfl rfl (q_move rfl rfl) ?_
  refine l_nil ?_
  refine n_then ?_
  refine t_block ?_
  refine t_range (γ := Value × List Lx) (lexemes_iter s b I hs hG) rfl rfl Tryd.func32 (by kernel_rfl) rfl (fun nn zz => zz.2 = (lexL s).take nn) (fun _ _ => False) F (fun zz TT => (row b2 54 [zz.1] :: tvec 57 3 lxC zz.1 zz.2 :: TT)) (fun _ _ => rfl) (fun zz => I) [(0, _), (1, _), (2, _), (4, _), (6, _)] (sub_cons rfl (sub_cons rfl (sub_cons rfl (sub_cons rfl (sub_cons rfl sub_nil))))) (.slice none 0 0, []) ?_ ?_ ?_ ?_ rfl ?_ ?_ ?_ (fun _ _ _ h => h.elim)
  · rfl
  · exact ⟨hb, Le.refl _⟩
  · exact Le.refl _
  · exact fun _ h => subC_st (st_nilT 57 3 lxC h)
  · exact lxVs_one
  · intro bl ready busy done dfr nn vs gg w0r FF hi hinv hrs hbz
    obtain ⟨v1, l1⟩ := gg
    have hl1 := hinv
    try dsimp only at *
    obtain ⟨hnl, rfl⟩ := lxV_one hi
    have hll := congrArg List.length hl1
    rw [List.length_take] at hll
    refine t_region ?_
    refine l_e rfl rfl rfl (e_alloc rfl ti57 rfl) ?_
    rintro _ _ _ ⟨b5, rfl, rfl, rfl⟩
    refine l_e0 rfl rfl ((by first | exact e_store_all rfl ti57 rfl rfl rfl (by first | exact chC_ones _ | exact pcC_ones _ | exact lxC_ones _ | simp [Value.oneCell', str, u8]) rfl | exact e_store_agg rfl ti57 rfl rfl rfl (by first | exact chC_ones _ | exact pcC_ones _ | exact lxC_ones _ | simp [Value.oneCell', str, u8]) rfl)) ?_
    rintro _ _ _ ⟨rfl, rfl⟩
    refine l_nil ?_
    refine n_begin (by rfl) hrs ?_
    refine t_block ?_
    refine t_region ?_
    refine l_q rfl rfl rfl (q_load_row rfl Tryd.underlying54 rfl rfl (by rfl)) ?_
    refine l_q rfl rfl rfl (q_load_rowA rfl Tryd.underlying57 ti57 rfl rfl rfl) ?_
    refine l_e rfl rfl rfl (e_buildSlice1 rfl Tryd.underlying54 ti57 rfl rfl rfl (by first | exact One.cells (by assumption) | exact One.cells hone | rfl) rfl) ?_
    rintro _ _ _ ⟨b10, rfl, rfl, rfl⟩
    refine l_e rfl rfl rfl (e_appendT (f := lxC) (c := nth (lexL s) nn lx0) rfl Tryd.underlying54 ti57 rfl rfl rfl rfl rfl rfl rfl (by first | exact lxC_ones _ | exact byC_ones _ | exact chC_ones _ | exact pcC_ones _ | simp [Value.oneCell', str, u8] | exact ones1 (by assumption)) (by simp only [maxLen]; omega) (by omega)) ?_
    rintro v11 _ _ ⟨rfl, rfl⟩
    refine l_one v11 (fun hone => ?_)
    refine l_e0 rfl rfl (e_storeS rfl ti54 rfl rfl (by first | exact ⟨rfl, rfl⟩ | assumption | exact hone) rfl (by first | (simp only [List.set_cons_succ, List.set_cons_zero]; rfl) | rfl)) ?_
    rintro _ _ _ ⟨rfl, rfl⟩
    refine l_nil ?_
    refine n_block ?_
    refine n_rnext (fun w' hw' => .inl ⟨rfl, ((v11, l1 ++ [nth (lexL s) nn lx0])), ?_, ?_, ?_⟩)
    · try dsimp only
      rw [hl1, take_nth lx0 hnl]
    · exact Le.refl _
    · try dsimp only
      exact subC_st hw'
  intro bd gg hinv hle
  obtain ⟨v1, l1⟩ := gg
  have hl1 := hinv
  try dsimp only at *
  rw [List.length_map, List.take_length] at hl1
  subst hl1
  refine n_block ?_
  refine n_then ?_
  refine t_seq ?_
  refine t_freezeT (f := lxC) (l := lexL s) v1 (fun _ => rfl) (fun J hJ hv => ?_)
  refine t_region ?_
  refine l_q rfl rfl rfl (q_load_row rfl Tryd.underlying54 rfl rfl (by rfl)) ?_
  refine l_q rfl rfl rfl (q_assign rfl rfl) ?_
  refine l_nil ?_
  refine n_then ?_
  refine t_ret ?_
  refine n_np_ret ?_
  refine n_ret1M (bs := [bd]) rfl rfl (fun w' hw => ?_)
  -- leaf 0
  exact ⟨_, rfl, J, F, ⟨hJ, rfl, hv⟩, subC_st hw⟩
set_option maxRecDepth 10000 in
theorem collect_calls (s : List UInt8) (b : Nat) (I : Look) (F : List HA) (w0 w : World) (hs : s.length ≤ 1000000) (hG : EnvI I) (hb : CellI I b 0 (str s)) (hw0 : St w0 I F w) : Calls Tryd.prog 15 [.func (.func 32) #[] #[.pointer (some ⟨b, 0, none⟩)]].toArray w (fun e w' => ∃ v, e = .returned v ∧ ∃ I' H', (Le I I' ∧ F = H' ∧ Sl I' 3 v ((lexL s).map lxC)) ∧ St w I' H' w') := by
  refine enter Tryd.func15 rfl Tryd.ntmps15 rfl (hw0.self) ?_
  refine t_seq ?_
  refine t_region ?_
  refine l_q rfl rfl rfl (q_assign rfl rfl) ?_
  refine l_nil ?_
  refine n_then ?_
  refine t_seq ?_
  refine t_region ?_
  refine l_q rfl rfl rfl (q_move rfl rfl) ?_
  refine l_e rfl rfl rfl (eff_call rfl rfl rfl Tryd.func31 (by kernel_rfl) rfl (fun w hw => appendSeq_calls s b _ _ _ w hs hG hb hw)) ?_
  rintro v4 J4 _ ⟨hJ4, rfl, hv4⟩
  refine l_q rfl rfl rfl (q_assign rfl rfl) ?_
  refine l_nil ?_
  refine n_then ?_
  refine t_ret ?_
  refine n_ret1 rfl rfl (fun w' hw => ?_)
  -- leaf 0
  exact ⟨_, rfl, J4, _, ⟨hJ4, rfl, hv4⟩, hw⟩
end Go.Tri
