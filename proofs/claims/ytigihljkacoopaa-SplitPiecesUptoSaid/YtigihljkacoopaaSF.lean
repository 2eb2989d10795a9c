/-
  A text of a proof (SF).
-/
import Derived.Test.YtigihljkacoopaaSE
namespace Go.Tri
open Go.Proofs Go.RowKit
theorem ti42 : TI Try.prog 42 1 8 (.pointer none) := ti_of (by kernel_rfl)
theorem ti44 : TI Try.prog 44 5 56 (.agg #[.slice none 0 0, .slice none 0 0, .bool false, .bool false, .bool false]) := ti_of (by kernel_rfl)
set_option maxRecDepth 10000 in
theorem fields_calls (vl : Value) (l : List Pc) (ifs : List UInt8) (I0 : Look) (F0 : List HA) (w0 w : World) (hll : l.length ≤ 4611686018427387904) (hpl : ∀ p ∈ l, p.t.length ≤ 4611686018427387904) (htot : tot l ≤ 20000) (hv : Sl I0 3 vl (l.map pcC)) (hw0 : St w0 I0 F0 w) : Calls Try.prog 9 [vl, str ifs].toArray w fun e w' => ∃ v, e = .returned v ∧ ∃ I' H', FieldsPost l ifs I0 F0 v I' H' ∧ St w I' H' w' := by
  refine enterM Try.func9 rfl Try.ntmps9 rfl (hw0.self) ?_
  refine t_seq ?_
  refine t_region ?_
  refine l_q rfl rfl rfl (q_assign rfl rfl) ?_
  refine l_q rfl rfl rfl (q_assign rfl rfl) ?_
  refine l_nil ?_
  refine n_then ?_
  refine t_seq ?_
  refine t_region ?_
  refine l_q rfl rfl rfl (q_build (pl := [(_, _), (_, _), (_, _), (_, _), (_, _)]) (cs := ([.slice none 0 0, .slice none 0 0, .bool false, .bool false, .bool false]).toArray) rfl Try.underlying44 ti44 ⟨rfl, ⟨_, _, ti26⟩, rfl, ⟨_, _, ti33⟩, rfl, ⟨_, _, ti4⟩, rfl, ⟨_, _, ti4⟩, rfl, ⟨_, _, ti4⟩, trivial⟩ rfl rfl) ?_
  refine l_e rfl rfl rfl (e_box rfl rfl rfl) ?_
  rintro _ _ _ ⟨b10, rfl, rfl, rfl⟩
  refine l_e rfl rfl rfl (e_alloc rfl ti42 rfl) ?_
  rintro _ _ _ ⟨b6, rfl, rfl, rfl⟩
  refine l_e0 rfl rfl (e_store rfl ti42 rfl rfl (by first | exact ⟨rfl, rfl⟩ | assumption | exact hone) rfl) ?_
  rintro _ _ _ ⟨rfl, rfl⟩
  refine l_heap (H' := row b6 42 [.pointer (some ⟨b10, 0, none⟩)] :: _) ?_ (fun _ h => h)
  refine l_nil ?_
  refine n_then ?_
  refine t_seq ?_
  refine t_seq ?_
  refine t_region ?_
  refine l_q rfl rfl rfl (q_move rfl rfl) ?_
  refine l_q rfl rfl rfl (q_move rfl rfl) ?_
  refine l_e rfl rfl rfl (eff_call rfl rfl rfl Try.func14 (by kernel_rfl) rfl (fun w hw => bytes_calls vl ifs _ _ _ w hv.one hw)) ?_
  rintro _ J0 _ ⟨hJ00, rfl, b2, b3, rfl, hb2, hb3⟩
  refine l_nil ?_
  refine n_then ?_
  refine t_block ?_
  refine t_range (γ := Value × Value × Look × List Value × FSt × Bool) (bytes_iter l ifs vl b2 b3 hll hpl) rfl rfl Try.func19 (by kernel_rfl) rfl (fun nn zz => Le J0 zz.2.2.1 ∧ RowsOf zz.2.2.1 zz.2.2.2.1 zz.2.2.2.2.1.out ∧ zz.2.2.2.2.1 = (((evsq l ifs).take nn).map toEv).foldl stepF startF ∧ (zz.2.2.2.2.1.begun = false → zz.2.2.2.2.1.cur = []) ∧ zz.2.2.2.2.2 = longB zz.2.2.2.2.1.out ∧ zz.2.2.2.2.1.cur.length + zz.2.2.2.2.1.out.length + cntN ((evsq l ifs).drop nn) ≤ tot l) (fun _ _ => False) F0 (fun zz TT => row b6 42 [.pointer (some ⟨b10, 0, none⟩)] :: row b10 44 [zz.1, zz.2.1, .bool zz.2.2.2.2.1.begun, .bool zz.2.2.2.2.1.soft, .bool zz.2.2.2.2.2] :: tvec 33 1 oneC zz.1 zz.2.2.2.1 :: tvec 49 2 chC zz.2.1 zz.2.2.2.2.1.cur :: TT) (fun _ _ => rfl) (fun zz => zz.2.2.1) [(0, _), (1, _), (4, _), (5, _), (6, _), (13, _)] (sub_cons rfl (sub_cons rfl (sub_cons rfl (sub_cons rfl (sub_cons rfl (sub_cons rfl sub_nil)))))) (.slice none 0 0, .slice none 0 0, J0, [], startF, false) ?_ ?_ ?_ ?_ rfl ?_ ?_ ?_ (fun _ _ _ h => h.elim)
  · exact ⟨Le.refl _, ⟨rfl, fun _ _ _ h => by cases h⟩, rfl, fun _ => rfl, rfl, by show 0 + 0 + cntN (evsq l ifs) ≤ tot l; rw [cntN_evsq]; omega⟩
  · exact ⟨hb2, hb3, hv.mono hJ00⟩
  · exact Le.refl _
  · dsimp only [startF]; exact fun _ h => subC_st (st_nilT 33 1 oneC (st_nilT 49 2 chC h))
  · intro vs hvs; obtain ⟨x, _, rfl⟩ := List.mem_map.1 hvs; rfl
  · intro bl ready busy done dfr nn vs gg w0r FF hi hinv hrs hbz
    obtain ⟨vo, vc, J, us, f, lg⟩ := gg
    obtain ⟨hJ, hus, hff, hcu, hlg, hpot⟩ := hinv
    dsimp only at *
    obtain ⟨c, k, rfl, hlt, hdr, htk⟩ := evV_inv hi
    rw [hdr, cntN_cons] at hpot
    dsimp only at hpot
    have hul := hus.1
    refine t_seq ?_
    refine t_region ?_
    refine l_e rfl rfl rfl (e_alloc rfl ti49 rfl) ?_
    rintro _ _ _ ⟨b7, rfl, rfl, rfl⟩
    refine l_e0 rfl rfl ((by first | exact e_store_all rfl ti49 rfl rfl rfl (by first | exact chC_ones _ | exact pcC_ones _ | simp [Value.oneCell', str, u8]) rfl | exact e_store_agg rfl ti49 rfl rfl rfl (by first | exact chC_ones _ | exact pcC_ones _ | simp [Value.oneCell', str, u8]) rfl)) ?_
    rintro _ _ _ ⟨rfl, rfl⟩
    refine l_nil ?_
    refine n_then ?_
    refine t_region ?_
    refine l_q rfl rfl rfl (q_assign rfl rfl) ?_
    refine l_nil ?_
    refine n_begin (by rfl) hrs ?_
    refine t_block ?_
    refine t_block ?_
    refine t_seq ?_
    refine t_region ?_
    refine l_q rfl rfl rfl (q_move rfl rfl) ?_
    refine l_q rfl rfl rfl (q_eql rfl rfl rfl) ?_
    refine l_q rfl rfl rfl (q_assign rfl rfl) ?_
    refine l_nil ?_
    refine n_then ?_
    refine t_cond rfl (fun hc0 => ?_) (fun hc0 => ?_)
    · skip
      try simp at hc0
      have hc0 : k = 1 := by omega
      rw [if_pos hc0] at hpot
      refine t_draw [4, 7] [] [row b6 42 [.pointer (some ⟨b10, 0, none⟩)]] mo (by kernel_rfl) (fun _ _ _ _ _ h => h) ?_
      refine r_q1 0 (by kernel_rfl) rfl (Le.refl _) rfl rfl rfl (q_load_row rfl Try.underlying42 rfl rfl (by rfl)) ?_
      refine r_q0 1 (by kernel_rfl) rfl (Le.refl _) rfl rfl rfl (fun _ hI => q_load_row rfl Try.underlying42 rfl rfl (by rfl)) ?_
      refine r_q1 2 (by kernel_rfl) rfl (Le.refl _) rfl rfl rfl (q_nilCheck rfl rfl) ?_
      refine r_q1 3 (by kernel_rfl) rfl (Le.refl _) rfl rfl rfl (q_fieldAddr rfl Try.underlying44 rfl rfl ti4 rfl rfl) ?_
      refine r_e0 4 (by kernel_rfl) (by kernel_rfl) rfl (Le.refl _) rfl rfl (e_store rfl ti4 rfl rfl (by first | exact ⟨rfl, rfl⟩ | assumption | exact hone) rfl) ?_
      rintro _ _ _ ⟨rfl, rfl⟩
      refine ⟨Le.refl _, .inr SubC.sub, ?_⟩
      refine r_heap (H' := row b10 44 [vo, vc, .bool true, .bool f.soft, .bool lg] :: _) ?_ (fun _ h => h)
      refine r_q0 5 (by kernel_rfl) rfl (Le.refl _) rfl rfl rfl (fun _ hI => q_nilCheck rfl rfl) ?_
      refine r_q0 6 (by kernel_rfl) rfl (Le.refl _) rfl rfl rfl (fun _ hI => q_fieldAddr rfl Try.underlying44 rfl rfl ti4 rfl rfl) ?_
      refine r_e0 7 (by kernel_rfl) (by kernel_rfl) rfl (Le.refl _) rfl rfl (e_store rfl ti4 rfl rfl (by first | exact ⟨rfl, rfl⟩ | assumption | exact hone) rfl) ?_
      rintro _ _ _ ⟨rfl, rfl⟩
      refine ⟨Le.refl _, .inr SubC.sub, ?_⟩
      refine r_heap (H' := row b10 44 [vo, vc, .bool true, .bool false, .bool lg] :: _) ?_ (fun _ h => h)
      refine r_end (by kernel_rfl) ?_
      refine n_block ?_
      refine n_block ?_
      refine n_rnext (fun w' hw' => .inl ⟨rfl, ((vo, vc, J, us, { f with begun := true, soft := false }, lg)), ?_, ?_, ?_⟩)
      · refine ⟨hJ, hus, ?_, by simp, hlg, ?_⟩
        · rw [fold_step startF htk, ← hff]; simp [toEv, stepF, hc0]
        · simp only [List.length_append, List.length_cons, List.length_nil]; omega
      · exact Le.refl _
      · exact subC_st hw'
    · skip
      try simp at hc0
      have hc0 : ¬ k = 1 := by omega
      rw [if_neg hc0] at hpot
      refine t_seq ?_
      refine t_region ?_
      refine l_q rfl rfl rfl (q_move rfl rfl) ?_
      refine l_q rfl rfl rfl (q_eql rfl rfl rfl) ?_
      refine l_q rfl rfl rfl (q_assign rfl rfl) ?_
      refine l_nil ?_
      refine n_then ?_
      refine t_cond rfl (fun hc1 => ?_) (fun hc1 => ?_)
      · skip
        try simp at hc1
        have hc1 : k = 0 := by omega
        refine t_seq ?_
        refine t_draw [6, 7, 10] [10] [row b6 42 [.pointer (some ⟨b10, 0, none⟩)], row b7 49 (chC c), row b10 44 [vo, vc, .bool f.begun, .bool f.soft, .bool lg]] mo (by kernel_rfl) (fun _ _ _ _ _ h => h) ?_
        refine r_q0 0 (by kernel_rfl) rfl (Le.refl _) rfl rfl rfl (fun _ hI => q_load_row rfl Try.underlying42 rfl rfl (by rfl)) ?_
        refine r_q0 1 (by kernel_rfl) rfl (Le.refl _) rfl rfl rfl (fun _ hI => q_load_row rfl Try.underlying42 rfl rfl (by rfl)) ?_
        refine r_q0 2 (by kernel_rfl) rfl (Le.refl _) rfl rfl rfl (fun _ hI => q_nilCheck rfl rfl) ?_
        refine r_q0 3 (by kernel_rfl) rfl (Le.refl _) rfl rfl rfl (fun _ hI => q_fieldAddr rfl Try.underlying44 rfl rfl ti33 rfl rfl) ?_
        refine r_q0 4 (by kernel_rfl) rfl (Le.refl _) rfl rfl rfl (fun _ hI => q_load_row rfl Try.underlying33 rfl rfl (by rfl)) ?_
        refine r_q1 5 (by kernel_rfl) rfl (Le.refl _) rfl rfl rfl (q_load_rowA rfl Try.underlying49 ti49 rfl rfl rfl) ?_
        refine r_e 6 (by kernel_rfl) (by kernel_rfl) rfl (Le.refl _) rfl rfl rfl (e_buildSlice1 rfl Try.underlying33 ti49 rfl rfl rfl (by first | exact One.cells (by assumption) | exact One.cells hone | rfl) rfl) ?_
        rintro _ _ _ ⟨b36, rfl, rfl, rfl⟩
        refine ⟨Le.refl _, .inr SubC.sub, ?_⟩
        refine r_e 7 (by kernel_rfl) (by kernel_rfl) rfl (Le.refl _) rfl rfl rfl (e_appendT (f := chC) (c := c) rfl Try.underlying33 ti49 rfl rfl rfl rfl rfl rfl rfl (by first | exact byC_ones _ | exact chC_ones _ | exact pcC_ones _ | simp [Value.oneCell', str, u8] | exact ones1 (by assumption)) (by simp only [maxLen]; omega) (by omega)) ?_
        rintro v37 _ _ ⟨rfl, rfl⟩
        refine ⟨Le.refl _, .inr SubC.sub, ?_⟩
        refine r_one v37 (fun hone => ?_)
        refine r_q0 8 (by kernel_rfl) rfl (Le.refl _) rfl rfl rfl (fun _ hI => q_nilCheck rfl rfl) ?_
        refine r_q0 9 (by kernel_rfl) rfl (Le.refl _) rfl rfl rfl (fun _ hI => q_fieldAddr rfl Try.underlying44 rfl rfl ti33 rfl rfl) ?_
        refine r_e0 10 (by kernel_rfl) (by kernel_rfl) rfl (Le.refl _) rfl rfl (e_store rfl ti33 rfl rfl (by first | exact ⟨rfl, rfl⟩ | assumption | exact hone) rfl) ?_
        rintro _ _ _ ⟨rfl, rfl⟩
        refine ⟨Le.refl _, .inl rfl, ?_⟩
        refine r_heap (H' := row b10 44 [vo, v37, .bool f.begun, .bool f.soft, .bool lg] :: _) ?_ (fun _ h => h)
        refine r_end (by kernel_rfl) ?_
        refine n_then ?_
        refine t_draw [4, 7] [] [row b6 42 [.pointer (some ⟨b10, 0, none⟩)]] mo (by kernel_rfl) (fun _ _ _ _ _ h => h) ?_
        refine r_q1 0 (by kernel_rfl) rfl (Le.refl _) rfl rfl rfl (q_load_row rfl Try.underlying42 rfl rfl (by rfl)) ?_
        refine r_q0 1 (by kernel_rfl) rfl (Le.refl _) rfl rfl rfl (fun _ hI => q_load_row rfl Try.underlying42 rfl rfl (by rfl)) ?_
        refine r_q1 2 (by kernel_rfl) rfl (Le.refl _) rfl rfl rfl (q_nilCheck rfl rfl) ?_
        refine r_q1 3 (by kernel_rfl) rfl (Le.refl _) rfl rfl rfl (q_fieldAddr rfl Try.underlying44 rfl rfl ti4 rfl rfl) ?_
        refine r_e0 4 (by kernel_rfl) (by kernel_rfl) rfl (Le.refl _) rfl rfl (e_store rfl ti4 rfl rfl (by first | exact ⟨rfl, rfl⟩ | assumption | exact hone) rfl) ?_
        rintro _ _ _ ⟨rfl, rfl⟩
        refine ⟨Le.refl _, .inr SubC.sub, ?_⟩
        refine r_heap (H' := row b10 44 [vo, v37, .bool true, .bool f.soft, .bool lg] :: _) ?_ (fun _ h => h)
        refine r_q0 5 (by kernel_rfl) rfl (Le.refl _) rfl rfl rfl (fun _ hI => q_nilCheck rfl rfl) ?_
        refine r_q0 6 (by kernel_rfl) rfl (Le.refl _) rfl rfl rfl (fun _ hI => q_fieldAddr rfl Try.underlying44 rfl rfl ti4 rfl rfl) ?_
        refine r_e0 7 (by kernel_rfl) (by kernel_rfl) rfl (Le.refl _) rfl rfl (e_store rfl ti4 rfl rfl (by first | exact ⟨rfl, rfl⟩ | assumption | exact hone) rfl) ?_
        rintro _ _ _ ⟨rfl, rfl⟩
        refine ⟨Le.refl _, .inr SubC.sub, ?_⟩
        refine r_heap (H' := row b10 44 [vo, v37, .bool true, .bool false, .bool lg] :: _) ?_ (fun _ h => h)
        refine r_end (by kernel_rfl) ?_
        refine n_block ?_
        refine n_block ?_
        refine n_rnext (fun w' hw' => .inl ⟨rfl, ((vo, v37, J, us, ⟨f.out, f.cur ++ [c], true, false⟩, lg)), ?_, ?_, ?_⟩)
        · refine ⟨hJ, hus, ?_, by simp, hlg, ?_⟩
          · rw [fold_step startF htk, ← hff]; simp [toEv, stepF, hc0, hc1]
          · simp only [List.length_append, List.length_cons, List.length_nil]; omega
        · exact Le.refl _
        · exact subC_st hw'
      · skip
        try simp at hc1
        have hc1 : ¬ k = 0 := by omega
        refine t_seq ?_
        refine t_region ?_
        refine l_q rfl rfl rfl (q_load_row rfl Try.underlying42 rfl rfl (by rfl)) ?_
        refine l_q rfl rfl rfl (q_nilCheck rfl rfl) ?_
        refine l_q rfl rfl rfl (q_fieldAddr rfl Try.underlying44 rfl rfl ti4 rfl rfl) ?_
        refine l_q rfl rfl rfl (q_load_row rfl Try.underlying4 rfl rfl (by rfl)) ?_
        refine l_q rfl rfl rfl (q_assign rfl rfl) ?_
        refine l_nil ?_
        refine n_then ?_
        refine t_cond rfl (fun hc2 => ?_) (fun hc2 => ?_)
        · skip
          have hc2 : f.begun = true := hc2
          refine t_region ?_
          refine l_q rfl rfl rfl (q_load_row rfl Try.underlying42 rfl rfl (by rfl)) ?_
          refine l_q rfl rfl rfl (q_move rfl rfl) ?_
          refine l_q rfl rfl rfl (q_eql rfl rfl rfl) ?_
          refine l_e rfl rfl rfl (eff_call rfl rfl rfl Try.func15 (by kernel_rfl) rfl (fun w hw => end_calls b10 vo vc _ _ _ _ us f.cur J _ _ w (by omega) (picks_st3 (row b10 44 [vo, vc, .bool f.begun, .bool f.soft, .bool lg]) (tvec 33 1 oneC vo us) (tvec 49 2 chC vc f.cur) hw))) ?_
          rintro _ J2 _ ⟨hJ2, hcur2, vo2, rfl⟩
          refine l_nil ?_
          refine n_block ?_
          refine n_block ?_
          refine n_rnext (fun w' hw' => .inl ⟨rfl, ((vo2, .slice none 0 0, J2, us ++ [vc], ⟨f.out ++ [f.cur], [], false, decide ((k : Int) = 2)⟩, (lg || decide ((4096 : Int) < (f.cur.length : Int))))), ?_, ?_, ?_⟩)
          · refine ⟨hJ.trans hJ2, (hus.mono hJ2).snoc hcur2, ?_, by simp, by rw [longB_snoc, hlg], ?_⟩
            · rw [fold_step startF htk, ← hff]; by_cases h2 : k = 2 <;> simp [toEv, stepF, hc0, hc1, hc2, h2]; omega
            · simp only [List.length_append, List.length_cons, List.length_nil]; omega
          · exact hJ2
          · exact subC_st hw'
        · skip
          have hc2 : f.begun = false := hc2
          refine t_seq ?_
          refine t_region ?_
          refine l_q rfl rfl rfl (q_move rfl rfl) ?_
          refine l_q rfl rfl rfl (q_eql rfl rfl rfl) ?_
          refine l_q rfl rfl rfl (q_assign rfl rfl) ?_
          refine l_nil ?_
          refine n_then ?_
          refine t_cond rfl (fun hc3 => ?_) (fun hc3 => ?_)
          · skip
            try simp at hc3
            have hc3 : k = 2 := by omega
            refine t_skip ?_
            refine n_block ?_
            refine n_block ?_
            refine n_rnext (fun w' hw' => .inl ⟨rfl, ((vo, vc, J, us, f, lg)), ?_, ?_, ?_⟩)
            · refine ⟨hJ, hus, ?_, hcu, hlg, ?_⟩
              · rw [fold_step startF htk, ← hff]; simp [toEv, stepF, hc0, hc1, hc2, hc3]
              · simp only [List.length_append, List.length_cons, List.length_nil]; omega
            · exact Le.refl _
            · exact subC_st hw'
          · skip
            try simp at hc3
            have hc3 : ¬ k = 2 := by omega
            refine t_seq ?_
            refine t_region ?_
            refine l_q rfl rfl rfl (q_load_row rfl Try.underlying42 rfl rfl (by rfl)) ?_
            refine l_q rfl rfl rfl (q_nilCheck rfl rfl) ?_
            refine l_q rfl rfl rfl (q_fieldAddr rfl Try.underlying44 rfl rfl ti4 rfl rfl) ?_
            refine l_q rfl rfl rfl (q_load_row rfl Try.underlying4 rfl rfl (by rfl)) ?_
            refine l_q rfl rfl rfl (q_assign rfl rfl) ?_
            refine l_nil ?_
            refine n_then ?_
            refine t_cond rfl (fun hc4 => ?_) (fun hc4 => ?_)
            · skip
              have hc4 : f.soft = true := hc4
              refine t_region ?_
              refine l_q rfl rfl rfl (q_load_row rfl Try.underlying42 rfl rfl (by rfl)) ?_
              refine l_q rfl rfl rfl (q_nilCheck rfl rfl) ?_
              refine l_q rfl rfl rfl (q_fieldAddr rfl Try.underlying44 rfl rfl ti4 rfl rfl) ?_
              refine l_e0 rfl rfl (e_store rfl ti4 rfl rfl (by first | exact ⟨rfl, rfl⟩ | assumption | exact hone) rfl) ?_
              rintro _ _ _ ⟨rfl, rfl⟩
              refine l_heap (H' := row b10 44 [vo, vc, .bool f.begun, .bool false, .bool lg] :: _) ?_ (fun _ h => h)
              refine l_nil ?_
              refine n_block ?_
              refine n_block ?_
              refine n_rnext (fun w' hw' => .inl ⟨rfl, ((vo, vc, J, us, { f with soft := false }, lg)), ?_, ?_, ?_⟩)
              · refine ⟨hJ, hus, ?_, hcu, hlg, ?_⟩
                · rw [fold_step startF htk, ← hff]; simp [toEv, stepF, hc0, hc1, hc2, hc3, hc4]
                · simp only [List.length_append, List.length_cons, List.length_nil]; omega
              · exact Le.refl _
              · exact subC_st hw'
            · skip
              have hc4 : f.soft = false := hc4
              refine t_region ?_
              refine l_q rfl rfl rfl (q_load_row rfl Try.underlying42 rfl rfl (by rfl)) ?_
              refine l_e rfl rfl rfl (eff_call rfl rfl rfl Try.func15 (by kernel_rfl) rfl (fun w hw => end_calls b10 vo vc _ _ _ _ us f.cur J _ _ w (by omega) (picks_st3 (row b10 44 [vo, vc, .bool f.begun, .bool f.soft, .bool lg]) (tvec 33 1 oneC vo us) (tvec 49 2 chC vc f.cur) hw))) ?_
              rintro _ J2 _ ⟨hJ2, hcur2, vo2, rfl⟩
              refine l_nil ?_
              refine n_block ?_
              refine n_block ?_
              refine n_rnext (fun w' hw' => .inl ⟨rfl, ((vo2, .slice none 0 0, J2, us ++ [vc], ⟨f.out ++ [f.cur], [], false, false⟩, (lg || decide ((4096 : Int) < (f.cur.length : Int))))), ?_, ?_, ?_⟩)
              · refine ⟨hJ.trans hJ2, (hus.mono hJ2).snoc hcur2, ?_, by simp, by rw [longB_snoc, hlg], ?_⟩
                · rw [fold_step startF htk, ← hff]; simp [toEv, stepF, hc0, hc1, hc2, hc3, hc4, hcu hc2]
                · simp only [List.length_append, List.length_cons, List.length_nil]; omega
              · exact hJ2
              · exact subC_st hw'
  intro bd gg hinv hle
  obtain ⟨vo, vc, J, us, f, lg⟩ := gg
  obtain ⟨hJ, hus, hff, hcu, hlg, hpot⟩ := hinv
  dsimp only at *
  have hul := hus.1
  refine n_block ?_
  refine n_then ?_
  refine t_cutE (ι := Value × Value × Look × List Value × Bool × Bool × Bool) (fun zz => Le J0 zz.2.2.1 ∧ RowsOf zz.2.2.1 zz.2.2.2.1 (fieldsAll l ifs) ∧ zz.2.2.2.2.2.2 = longB (fieldsAll l ifs) ∧ zz.2.2.2.1.length ≤ 20001) (fun zz => []) [(0, _), (1, _), (4, _), (5, _), (6, _), (13, _)] (fun zz => zz.2.2.1) (fun zz => (row b6 42 [.pointer (some ⟨b10, 0, none⟩)] :: row b10 44 [zz.1, zz.2.1, .bool zz.2.2.2.2.1, .bool zz.2.2.2.2.2.1, .bool zz.2.2.2.2.2.2] :: tvec 33 1 oneC zz.1 zz.2.2.2.1 :: obj bd (.deferred (some [])) :: F0)) (sub_cons rfl (sub_cons rfl (sub_cons rfl (sub_cons rfl (sub_cons rfl (sub_cons rfl sub_nil)))))) ?_ ?_
  · skip
    refine t_seq ?_
    have hfin : fieldsAll l ifs = endF f := by rw [hff, List.length_map, List.take_length, evsq_ev]; rfl
    refine t_region ?_
    refine l_q rfl rfl rfl (q_load_row rfl Try.underlying42 rfl rfl (by rfl)) ?_
    refine l_q rfl rfl rfl (q_nilCheck rfl rfl) ?_
    refine l_q rfl rfl rfl (q_fieldAddr rfl Try.underlying44 rfl rfl ti4 rfl rfl) ?_
    refine l_q rfl rfl rfl (q_load_row rfl Try.underlying4 rfl rfl (by rfl)) ?_
    refine l_nil ?_
    refine n_then ?_
    refine t_cond rfl (fun hc5 => ?_) (fun hc5 => ?_)
    · skip
      have hc5 : f.begun = true := hc5
      refine t_region ?_
      refine l_q rfl rfl rfl (q_load_row rfl Try.underlying42 rfl rfl (by rfl)) ?_
      refine l_e rfl rfl rfl (eff_call rfl rfl rfl Try.func15 (by kernel_rfl) rfl (fun w hw => end_calls b10 vo vc _ _ _ _ us f.cur J _ _ w (by omega) (picks_st3 (row b10 44 [vo, vc, .bool f.begun, .bool f.soft, .bool lg]) (tvec 33 1 oneC vo us) (tvec 49 2 chC vc f.cur) hw))) ?_
      rintro _ J2 _ ⟨hJ2, hcur2, vo2, rfl⟩
      refine l_nil ?_
      refine n_cut ((vo2, .slice none 0 0, J2, us ++ [vc], false, false, (lg || decide ((4096 : Int) < (f.cur.length : Int))))) ?_ (sub_nil) (sub_cons rfl (sub_cons rfl (sub_cons rfl (sub_cons rfl (sub_cons rfl (sub_cons rfl sub_nil)))))) (fun _ h => by try dsimp only; exact subC_st h)
      · refine ⟨hJ.trans hJ2, ?_, ?_, by simp only [List.length_append, List.length_cons, List.length_nil]; omega⟩
        · rw [hfin, endF, if_pos hc5]; exact (hus.mono hJ2).snoc hcur2
        · rw [hfin, endF, if_pos hc5, longB_snoc, hlg]
    · skip
      have hc5 : f.begun = false := hc5
      refine t_skip ?_
      refine n_cut ((vo, vc, J, us, f.begun, f.soft, lg)) ?_ (sub_nil) (sub_cons rfl (sub_cons rfl (sub_cons rfl (sub_cons rfl (sub_cons rfl (sub_cons rfl sub_nil)))))) (fun _ h => by try dsimp only; exact subC_st h)
      · refine ⟨hJ, ?_, ?_, by dsimp only; omega⟩
        · rw [hfin, endF, if_neg (by simp [hc5])]; exact hus
        · rw [hfin, endF, if_neg (by simp [hc5]), hlg]
  rintro ⟨vo, vc, J, us, bg, sf, lg⟩ ⟨hJ, hus, hlg, hub⟩
  dsimp only at *
  refine t_seq ?_
  refine t_seq ?_
  refine t_qreg ?_
  refine s_q rfl rfl rfl (q_load_row rfl Try.underlying42 rfl rfl (by rfl)) ?_
  refine s_q rfl rfl rfl (q_nilCheck rfl rfl) ?_
  refine s_q rfl rfl rfl (q_fieldAddr rfl Try.underlying44 rfl rfl ti4 rfl rfl) ?_
  refine s_q rfl rfl rfl (q_load_row rfl Try.underlying4 rfl rfl (by rfl)) ?_
  refine s_q rfl rfl rfl (q_move rfl rfl) ?_
  refine s_short 6 4 76 83 82 false _ _ rfl rfl rfl rfl rfl rfl (fun h83 => by
      try simp at h83
      refine s_g rfl rfl rfl rfl rfl rfl (q_load_row rfl Try.underlying42 rfl rfl (by rfl)) ?_
      refine s_g rfl rfl rfl rfl rfl rfl (q_nilCheck rfl rfl) ?_
      refine s_g rfl rfl rfl rfl rfl rfl (q_fieldAddr rfl Try.underlying44 rfl rfl ti26 rfl rfl) ?_
      refine s_g rfl rfl rfl rfl rfl rfl (q_load_row rfl Try.underlying26 rfl rfl (by rfl)) ?_
      refine s_g rfl rfl rfl rfl rfl rfl ((by first | exact q_lenV rfl Try.underlying26 rfl | exact q_len rfl Try.underlying26 rfl (Sl.len ‹_›))) ?_
      refine s_g rfl rfl rfl rfl rfl rfl (q_gtr rfl rfl rfl) ?_
      exact s_val rfl
    ) rfl rfl rfl (.inr ⟨rfl, rfl⟩) ?_
  refine s_done ?_
  refine n_then ?_
  refine t_cond rfl (fun hc6 => ?_) (fun hc6 => ?_)
  · skip
    refine t_seq ?_
    refine t_region ?_
    refine l_q rfl rfl rfl (q_assign rfl rfl) ?_
    refine l_q rfl rfl rfl (q_assign rfl rfl) ?_
    refine l_nil ?_
    refine n_then ?_
    refine t_ret ?_
    refine n_ret_then ?_
    refine n_ret2M (bs := [bd]) rfl rfl rfl (fun w' hw => ?_)
    -- leaf 0
    refine ⟨_, rfl, J, F0, ⟨hJ00.trans hJ, rfl, _, _, rfl, ?_⟩, subC_st hw⟩
    have h6 : (lg || decide ((200 : Int) < (us.length : Int))) = true := hc6
    rw [if_neg]
    · exact ⟨rfl, rfl⟩
    rw [okFields_long, ← hlg]
    have hul := hus.1
    intro h
    simp at h h6
    rcases h6 with h6 | h6
    · rw [h6] at h; simp at h
    · omega
  · skip
    refine t_skip ?_
    refine n_then ?_
    refine t_seq ?_
    refine t_freezeT (f := oneC) (l := us) vo (fun _ => rfl) (fun J3 hJ3 hvo => ?_)
    refine t_region ?_
    refine l_q rfl rfl rfl (q_load_row rfl Try.underlying42 rfl rfl (by rfl)) ?_
    refine l_q rfl rfl rfl (q_nilCheck rfl rfl) ?_
    refine l_q rfl rfl rfl (q_fieldAddr rfl Try.underlying44 rfl rfl ti26 rfl rfl) ?_
    refine l_q rfl rfl rfl (q_load_row rfl Try.underlying26 rfl rfl (by rfl)) ?_
    refine l_q rfl rfl rfl (q_assign rfl rfl) ?_
    refine l_q rfl rfl rfl (q_assign rfl rfl) ?_
    refine l_nil ?_
    refine n_then ?_
    refine t_ret ?_
    refine n_ret2M (bs := [bd]) rfl rfl rfl (fun w' hw => ?_)
    -- leaf 1
    refine ⟨_, rfl, J3, F0, ⟨(hJ00.trans hJ).trans hJ3, rfl, _, _, rfl, ?_⟩, subC_st hw⟩
    have h6 : (lg || decide ((200 : Int) < (us.length : Int))) = false := hc6
    have hul := hus.1
    rw [if_pos]
    · exact ⟨rfl, us, hvo, hus.mono hJ3⟩
    rw [okFields_long, ← hlg]
    simp at h6 ⊢
    exact ⟨h6.1, by omega⟩
end Go.Tri
