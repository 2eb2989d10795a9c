/-
  A text of a proof (SS).
-/
import Derived.Test.YtigihljkacoopaaPCut
import Derived.Test.YtigihljkacoopaaSQ
namespace Go.Tri
open Go.Proofs Go.RowKit
theorem two_ones (p q : Pc) : ∀ u ∈ [pcC p, pcC q].flatten, u.oneCell' = true := fun u hu => by
  simp only [List.flatten_cons, List.flatten_nil, List.append_nil, List.mem_append] at hu
  rcases hu with h | h
  · exact pcC_ones _ u h
  · exact pcC_ones _ u h
set_option maxRecDepth 10000 in
theorem splitPieces_pure (vl : Value) (l : List Pc) (ifs : List UInt8) (a : Int) (w : World) (hll : l.length ≤ 1048576) (htl : tot l ≤ 1048576) (hv : Sl (look w) 3 vl (l.map pcC)) : Pure Try.prog 7 [vl, str ifs, .int .i64 a] w (.bool true) := by
  have hpl : ∀ p ∈ l, p.t.length ≤ 1048576 := fun p hp => Nat.le_trans (tot_mem hp) htl
  refine enter Try.func7 rfl Try.ntmps7 rfl (St.start w (look w) (Le.refl _)) ?_
  refine t_seq ?_
  refine t_region ?_
  refine l_q rfl rfl rfl (q_assign rfl rfl) ?_
  refine l_nil ?_
  refine n_then ?_
  refine t_seq ?_
  refine t_seq ?_
  refine t_region ?_
  refine l_q rfl rfl rfl (quiet_call rfl rfl rfl Try.func8 (by kernel_rfl) rfl (fun w _ => awake_pure w)) ?_
  refine l_q rfl rfl rfl (q_not rfl rfl) ?_
  refine l_nil ?_
  refine n_then ?_
  refine t_cond rfl (fun hc0 => ?_) (fun hc0 => ?_)
  · skip
    try simp at hc0
  · skip
    try simp at hc0
    refine t_skip ?_
    refine n_then ?_
    refine t_seq ?_
    refine t_region ?_
    refine l_q rfl rfl rfl (q_assign rfl rfl) ?_
    refine l_nil ?_
    refine n_then ?_
    refine t_seq ?_
    refine t_region ?_
    refine l_q rfl rfl rfl (q_assign rfl rfl) ?_
    refine l_nil ?_
    refine n_then ?_
    refine t_seq ?_
    refine t_seq ?_
    refine t_region ?_
    refine l_q rfl rfl rfl (q_move rfl rfl) ?_
    refine l_q rfl rfl rfl ((by first | exact q_lenV rfl Try.underlying22 rfl | exact q_len rfl Try.underlying22 rfl (Sl.lenOf hv (List.length_map _)))) ?_
    refine l_q rfl rfl rfl (q_move rfl rfl) ?_
    refine l_nil ?_
    refine n_then ?_
    refine t_block ?_
    refine t_loopE (ι := Nat × Value × List Pc) (fun zz => zz.1 ≤ l.length ∧ SameEv zz.2.2 (l.take zz.1) ∧ zz.2.2.length = 2 * zz.1 ∧ tot zz.2.2 = tot (l.take zz.1)) (fun zz => l.length - zz.1) (fun zz => [(22, .int .i64 (zz.1 : Int)), (7, .int .i64 (tot (l.take zz.1) : Int)), (8, zz.2.1)]) [(0, _), (1, _), (2, _), (6, _), (19, _), (20, _), (21, _)] (fun zz => look w) (fun zz => [tvec 25 3 pcC zz.2.1 zz.2.2]) (0, .slice none 0 0, []) ?_ (sub_cons rfl (sub_cons rfl (sub_cons rfl sub_nil))) (sub_cons rfl (sub_cons rfl (sub_cons rfl (sub_cons rfl (sub_cons rfl (sub_cons rfl (sub_cons rfl sub_nil))))))) (fun _ h => st_nilT 25 3 pcC h) ?_
    · exact ⟨Nat.zero_le _, fun _ _ => rfl, rfl, rfl⟩
    rintro ⟨k, vc, cl⟩ ⟨hk, hsame, hcn, hct⟩
    try dsimp only at *
    have htk := tot_take_le l k
    refine t_seq ?_
    refine t_region ?_
    refine l_q rfl rfl rfl (q_lss rfl rfl rfl) ?_
    refine l_nil ?_
    refine n_then ?_
    refine t_seq ?_
    refine t_cond rfl (fun hc1 => ?_) (fun hc1 => ?_)
    · skip
      try simp at hc1
      have hpk : (nth l k pc0).t.length ≤ 1048576 := hpl _ (nth_mem (by omega))
      refine t_skip ?_
      refine n_then ?_
      refine t_seq ?_
      refine t_block ?_
      refine t_seq ?_
      refine t_region ?_
      refine l_q rfl rfl rfl ((by first | exact q_indexAddrVN rfl Try.underlying22 ti25 rfl rfl (by omega) | exact q_indexAddrN rfl Try.underlying22 ti25 rfl rfl (Sl.shape hv (List.length_map _)) (by omega) | exact q_indexAddrV rfl Try.underlying22 ti25 rfl rfl (by omega) | exact q_indexAddr rfl Try.underlying22 ti25 rfl rfl (Sl.shape hv (List.length_map _)) (by omega))) ?_
      refine l_q rfl rfl rfl ((by first | exact q_load_rowA rfl Try.underlying25 ti25 rfl rfl rfl | exact q_load_agg rfl Try.underlying25 ti25 rfl rfl (rds_pc (i := k) hv (by omega)))) ?_
      refine l_e rfl rfl rfl (e_alloc rfl ti25 rfl) ?_
      rintro _ _ _ ⟨b10, rfl, rfl, rfl⟩
      refine l_e0 rfl rfl ((by first | exact e_store_all rfl ti25 rfl rfl rfl (by first | exact chC_ones _ | exact pcC_ones _ | simp [Value.oneCell', str, u8]) rfl | exact e_store_agg rfl ti25 rfl rfl rfl (by first | exact chC_ones _ | exact pcC_ones _ | simp [Value.oneCell', str, u8]) rfl)) ?_
      rintro _ _ _ ⟨rfl, rfl⟩
      refine l_nil ?_
      refine n_then ?_
      refine t_seq ?_
      refine t_region ?_
      refine l_q rfl rfl rfl (q_move rfl rfl) ?_
      refine l_q rfl rfl rfl (q_fieldAddr rfl Try.underlying25 rfl rfl ti9 rfl rfl) ?_
      refine l_q rfl rfl rfl ((by first | exact q_load_row rfl Try.underlying9 rfl rfl (by rfl) | exact q_load rfl Try.underlying9 rfl rfl (rd_row1 (i := 0) hv (by omega)))) ?_
      refine l_q rfl rfl rfl (q_len_str rfl Try.underlying9 rfl) ?_
      refine l_q rfl rfl rfl (q_add64 rfl rfl rfl (by omega)) ?_
      refine l_q rfl rfl rfl (q_assign rfl rfl) ?_
      refine l_nil ?_
      refine n_then ?_
      refine t_seq ?_
      refine t_region ?_
      refine l_q rfl rfl rfl (q_assign rfl rfl) ?_
      refine l_nil ?_
      refine n_then ?_
      refine t_cutE (ι := Nat) (fun zz => zz ≤ (nth l k pc0).t.length) (fun zz => [(11, .int .i64 (zz : Int))]) [(22, _), (7, _), (8, _), (0, _), (1, _), (2, _), (6, _), (19, _), (20, _), (21, _), (23, _), (10, _)] (fun zz => look w) (fun zz => [row b10 25 (pcC (nth l k pc0)), tvec 25 3 pcC vc cl]) (sub_cons rfl (sub_cons rfl (sub_cons rfl (sub_cons rfl (sub_cons rfl (sub_cons rfl (sub_cons rfl (sub_cons rfl (sub_cons rfl (sub_cons rfl (sub_cons rfl (sub_cons rfl sub_nil)))))))))))) ?_ ?_
      · skip
        refine t_seq ?_
        refine t_region ?_
        refine l_q rfl rfl rfl (q_fieldAddr rfl Try.underlying25 rfl rfl ti9 rfl rfl) ?_
        refine l_q rfl rfl rfl ((by first | exact q_load_row rfl Try.underlying9 rfl rfl (by rfl) | exact q_load rfl Try.underlying9 rfl rfl (rd_row1 (i := 0) hv (by omega)))) ?_
        refine l_q rfl rfl rfl (q_len_str rfl Try.underlying9 rfl) ?_
        refine l_q rfl rfl rfl (q_gtr rfl rfl rfl) ?_
        refine l_nil ?_
        refine n_then ?_
        refine t_cond rfl (fun hc2 => ?_) (fun hc2 => ?_)
        · skip
          try simp at hc2
          obtain ⟨hm1, hm2, j0, hj0, hje⟩ := mod_nat a (nth l k pc0).t.length (by omega)
          refine t_qdraw mo (by kernel_rfl) (fun _ _ _ _ _ h => h) ?_
          refine s_q rfl rfl rfl (q_move rfl rfl) ?_
          refine s_q rfl rfl rfl (q_fieldAddr rfl Try.underlying25 rfl rfl ti9 rfl rfl) ?_
          refine s_q rfl rfl rfl ((by first | exact q_load_row rfl Try.underlying9 rfl rfl (by rfl) | exact q_load rfl Try.underlying9 rfl rfl (rd_row1 (i := 0) hv (by omega)))) ?_
          refine s_q rfl rfl rfl (q_len_str rfl Try.underlying9 rfl) ?_
          refine s_q rfl rfl rfl (q_rem rfl rfl rfl (by omega)) ?_
          refine s_q rfl rfl rfl (q_fieldAddr rfl Try.underlying25 rfl rfl ti9 rfl rfl) ?_
          refine s_q rfl rfl rfl ((by first | exact q_load_row rfl Try.underlying9 rfl rfl (by rfl) | exact q_load rfl Try.underlying9 rfl rfl (rd_row1 (i := 0) hv (by omega)))) ?_
          refine s_q rfl rfl rfl (q_len_str rfl Try.underlying9 rfl) ?_
          refine s_q rfl rfl rfl (q_add64 rfl rfl rfl (by omega)) ?_
          refine s_q rfl rfl rfl (q_fieldAddr rfl Try.underlying25 rfl rfl ti9 rfl rfl) ?_
          refine s_q rfl rfl rfl ((by first | exact q_load_row rfl Try.underlying9 rfl rfl (by rfl) | exact q_load rfl Try.underlying9 rfl rfl (rd_row1 (i := 0) hv (by omega)))) ?_
          refine s_q rfl rfl rfl (q_len_str rfl Try.underlying9 rfl) ?_
          refine s_q rfl rfl rfl (q_rem rfl rfl rfl (by omega)) ?_
          refine s_q rfl rfl rfl (q_assign rfl rfl) ?_
          refine s_done ?_
          refine n_cut (j0) ?_ (sub_cons' rfl (congrArg (Value.int IntKind.i64) hje) (sub_nil)) (sub_cons rfl (sub_cons rfl (sub_cons rfl (sub_cons rfl (sub_cons rfl (sub_cons rfl (sub_cons rfl (sub_cons rfl (sub_cons rfl (sub_cons rfl (sub_cons rfl (sub_cons rfl sub_nil)))))))))))) (fun _ h => by try dsimp only; exact subC_st h)
          · exact hj0
        · skip
          try simp at hc2
          refine t_skip ?_
          refine n_cut (0) ?_ (sub_cons rfl sub_nil) (sub_cons rfl (sub_cons rfl (sub_cons rfl (sub_cons rfl (sub_cons rfl (sub_cons rfl (sub_cons rfl (sub_cons rfl (sub_cons rfl (sub_cons rfl (sub_cons rfl (sub_cons rfl sub_nil)))))))))))) (fun _ h => by try dsimp only; exact subC_st h)
          · exact Nat.zero_le _
      rintro j hj
      try dsimp only at *
      refine t_cutE (ι := Nat × Nat) (fun zz => True) (fun zz => [(12, .pointer (some ⟨zz.1, 0, none⟩)), (13, .pointer (some ⟨zz.2, 0, none⟩))]) [(11, _), (22, _), (7, _), (8, _), (0, _), (1, _), (2, _), (6, _), (19, _), (20, _), (21, _), (23, _), (10, _)] (fun zz => look w) (fun zz => [row zz.1 25 (pcC (nth l k pc0)), row zz.2 25 (pcC (nth l k pc0)), row b10 25 (pcC (nth l k pc0)), tvec 25 3 pcC vc cl]) (sub_cons rfl (sub_cons rfl (sub_cons rfl (sub_cons rfl (sub_cons rfl (sub_cons rfl (sub_cons rfl (sub_cons rfl (sub_cons rfl (sub_cons rfl (sub_cons rfl (sub_cons rfl (sub_cons rfl sub_nil))))))))))))) ?_ ?_
      · skip
        refine t_draw [2, 3, 4, 5] [] [row b10 25 (pcC (nth l k pc0))] mo (by kernel_rfl) (fun _ _ _ _ _ h => h) ?_
        refine r_q0 0 (by kernel_rfl) rfl (Le.refl _) rfl rfl rfl (fun _ hI => (by first | exact q_load_rowA rfl Try.underlying25 ti25 rfl rfl rfl | exact q_load_agg rfl Try.underlying25 ti25 rfl rfl (rds_pc (i := k) hv (by omega)))) ?_
        refine r_q0 1 (by kernel_rfl) rfl (Le.refl _) rfl rfl rfl (fun _ hI => (by first | exact q_load_rowA rfl Try.underlying25 ti25 rfl rfl rfl | exact q_load_agg rfl Try.underlying25 ti25 rfl rfl (rds_pc (i := k) hv (by omega)))) ?_
        refine r_two 2 3 (by kernel_rfl) (by kernel_rfl) ?_ ?_
        · skip
          refine x_e 2 rfl rfl (Le.refl _) rfl rfl rfl (e_alloc rfl ti25 rfl) ?_
          rintro _ _ _ ⟨b12, rfl, rfl, rfl⟩
          refine ⟨Le.refl _, .inr SubC.sub, ?_⟩
          refine r_e 3 (by kernel_rfl) (by kernel_rfl) rfl (Le.refl _) rfl rfl rfl (e_alloc rfl ti25 rfl) ?_
          rintro _ _ _ ⟨b13, rfl, rfl, rfl⟩
          refine ⟨Le.refl _, .inr SubC.sub, ?_⟩
          refine r_e0 4 (by kernel_rfl) (by kernel_rfl) rfl (Le.refl _) rfl rfl ((by first | exact e_store_all rfl ti25 rfl rfl rfl (by first | exact chC_ones _ | exact pcC_ones _ | simp [Value.oneCell', str, u8]) rfl | exact e_store_agg rfl ti25 rfl rfl rfl (by first | exact chC_ones _ | exact pcC_ones _ | simp [Value.oneCell', str, u8]) rfl)) ?_
          rintro _ _ _ ⟨rfl, rfl⟩
          refine ⟨Le.refl _, .inr SubC.sub, ?_⟩
          refine r_heap (H' := row b12 25 (pcC (nth l k pc0)) :: _) ?_ (fun _ h => h)
          refine r_e0 5 (by kernel_rfl) (by kernel_rfl) rfl (Le.refl _) rfl rfl ((by first | exact e_store_all rfl ti25 rfl rfl rfl (by first | exact chC_ones _ | exact pcC_ones _ | simp [Value.oneCell', str, u8]) rfl | exact e_store_agg rfl ti25 rfl rfl rfl (by first | exact chC_ones _ | exact pcC_ones _ | simp [Value.oneCell', str, u8]) rfl)) ?_
          rintro _ _ _ ⟨rfl, rfl⟩
          refine ⟨Le.refl _, .inr SubC.sub, ?_⟩
          refine r_heap (H' := row b13 25 (pcC (nth l k pc0)) :: _) ?_ (fun _ h => h)
          refine r_end (by kernel_rfl) ?_
          refine n_cut ((b12, b13)) ?_ (sub_cons rfl (sub_cons rfl sub_nil)) (sub_cons rfl (sub_cons rfl (sub_cons rfl (sub_cons rfl (sub_cons rfl (sub_cons rfl (sub_cons rfl (sub_cons rfl (sub_cons rfl (sub_cons rfl (sub_cons rfl (sub_cons rfl (sub_cons rfl sub_nil))))))))))))) (fun _ h => by try dsimp only; exact subC_st h)
          · trivial
        · skip
          refine x_e 3 rfl rfl (Le.refl _) rfl rfl rfl (e_alloc rfl ti25 rfl) ?_
          rintro _ _ _ ⟨b13, rfl, rfl, rfl⟩
          refine ⟨Le.refl _, .inr SubC.sub, ?_⟩
          refine r_e 2 (by kernel_rfl) (by kernel_rfl) rfl (Le.refl _) rfl rfl rfl (e_alloc rfl ti25 rfl) ?_
          rintro _ _ _ ⟨b12, rfl, rfl, rfl⟩
          refine ⟨Le.refl _, .inr SubC.sub, ?_⟩
          refine r_e0 4 (by kernel_rfl) (by kernel_rfl) rfl (Le.refl _) rfl rfl ((by first | exact e_store_all rfl ti25 rfl rfl rfl (by first | exact chC_ones _ | exact pcC_ones _ | simp [Value.oneCell', str, u8]) rfl | exact e_store_agg rfl ti25 rfl rfl rfl (by first | exact chC_ones _ | exact pcC_ones _ | simp [Value.oneCell', str, u8]) rfl)) ?_
          rintro _ _ _ ⟨rfl, rfl⟩
          refine ⟨Le.refl _, .inr SubC.sub, ?_⟩
          refine r_heap (H' := row b12 25 (pcC (nth l k pc0)) :: _) ?_ (fun _ h => h)
          refine r_e0 5 (by kernel_rfl) (by kernel_rfl) rfl (Le.refl _) rfl rfl ((by first | exact e_store_all rfl ti25 rfl rfl rfl (by first | exact chC_ones _ | exact pcC_ones _ | simp [Value.oneCell', str, u8]) rfl | exact e_store_agg rfl ti25 rfl rfl rfl (by first | exact chC_ones _ | exact pcC_ones _ | simp [Value.oneCell', str, u8]) rfl)) ?_
          rintro _ _ _ ⟨rfl, rfl⟩
          refine ⟨Le.refl _, .inr SubC.sub, ?_⟩
          refine r_heap (H' := row b13 25 (pcC (nth l k pc0)) :: _) ?_ (fun _ h => h)
          refine r_end (by kernel_rfl) ?_
          refine n_cut ((b12, b13)) ?_ (sub_cons rfl (sub_cons rfl sub_nil)) (sub_cons rfl (sub_cons rfl (sub_cons rfl (sub_cons rfl (sub_cons rfl (sub_cons rfl (sub_cons rfl (sub_cons rfl (sub_cons rfl (sub_cons rfl (sub_cons rfl (sub_cons rfl (sub_cons rfl sub_nil))))))))))))) (fun _ h => by try dsimp only; exact subC_st h)
          · trivial
      rintro ⟨b12, b13⟩ _
      try dsimp only at *
      refine t_seq ?_
      refine t_draw [9, 11] [] [row b10 25 (pcC (nth l k pc0))] mo (by kernel_rfl) (fun _ _ _ _ _ h => h) ?_
      refine r_q1 0 (by kernel_rfl) rfl (Le.refl _) rfl rfl rfl (q_fieldAddr rfl Try.underlying25 rfl rfl ti9 rfl rfl) ?_
      refine r_q1 1 (by kernel_rfl) rfl (Le.refl _) rfl rfl rfl ((by first | exact q_load_row rfl Try.underlying9 rfl rfl (by rfl) | exact q_load rfl Try.underlying9 rfl rfl (rd_row1 (i := 0) hv (by omega)))) ?_
      refine r_q1 2 (by kernel_rfl) rfl (Le.refl _) rfl rfl rfl (q_move rfl rfl) ?_
      refine r_q1 3 (by kernel_rfl) rfl (Le.refl _) rfl rfl rfl (q_slice_str_to rfl Try.underlying9 rfl rfl (by omega)) ?_
      refine r_q0 4 (by kernel_rfl) rfl (Le.refl _) rfl rfl rfl (fun _ hI => q_fieldAddr rfl Try.underlying25 rfl rfl ti9 rfl rfl) ?_
      refine r_q0 5 (by kernel_rfl) rfl (Le.refl _) rfl rfl rfl (fun _ hI => (by first | exact q_load_row rfl Try.underlying9 rfl rfl (by rfl) | exact q_load rfl Try.underlying9 rfl rfl (rd_row1 (i := 0) hv (by omega)))) ?_
      refine r_q0 6 (by kernel_rfl) rfl (Le.refl _) rfl rfl rfl (fun _ hI => q_move rfl rfl) ?_
      refine r_q0 7 (by kernel_rfl) rfl (Le.refl _) rfl rfl rfl (fun _ hI => q_slice_str_from rfl Try.underlying9 rfl rfl (by omega)) ?_
      refine r_q1 8 (by kernel_rfl) rfl (Le.refl _) rfl rfl rfl (q_fieldAddr rfl Try.underlying25 rfl rfl ti9 rfl rfl) ?_
      refine r_e0 9 (by kernel_rfl) (by kernel_rfl) rfl (Le.refl _) rfl rfl (e_store rfl ti9 rfl rfl (by first | exact ⟨rfl, rfl⟩ | assumption) rfl) ?_
      rintro _ _ _ ⟨rfl, rfl⟩
      refine ⟨Le.refl _, .inr SubC.sub, ?_⟩
      refine r_heap (H' := row b12 25 (pcC (cutA (nth l k pc0) j)) :: _) ?_ (fun _ h => h)
      refine r_q0 10 (by kernel_rfl) rfl (Le.refl _) rfl rfl rfl (fun _ hI => q_fieldAddr rfl Try.underlying25 rfl rfl ti9 rfl rfl) ?_
      refine r_e0 11 (by kernel_rfl) (by kernel_rfl) rfl (Le.refl _) rfl rfl (e_store rfl ti9 rfl rfl (by first | exact ⟨rfl, rfl⟩ | assumption) rfl) ?_
      rintro _ _ _ ⟨rfl, rfl⟩
      refine ⟨Le.refl _, .inr SubC.sub, ?_⟩
      refine r_heap (H' := row b13 25 (pcC (cutB (nth l k pc0) j)) :: _) ?_ (fun _ h => h)
      refine r_end (by kernel_rfl) ?_
      refine n_then ?_
      refine t_region ?_
      refine l_q rfl rfl rfl (q_move rfl rfl) ?_
      refine l_q rfl rfl rfl ((by first | exact q_load_rowA rfl Try.underlying25 ti25 rfl rfl rfl | exact q_load_agg rfl Try.underlying25 ti25 rfl rfl (rds_pc (i := k) hv (by omega)))) ?_
      refine l_q rfl rfl rfl ((by first | exact q_load_rowA rfl Try.underlying25 ti25 rfl rfl rfl | exact q_load_agg rfl Try.underlying25 ti25 rfl rfl (rds_pc (i := k) hv (by omega)))) ?_
      refine l_e rfl rfl rfl (e_buildSliceN (vs := [_, _]) (css := [pcC (cutA (nth l k pc0) j), pcC (cutB (nth l k pc0) j)]) rfl Try.underlying22 ti25 rfl rfl rfl rfl (rfl) (by simp [pcC, chC])) ?_
      rintro _ _ _ ⟨b63, rfl, rfl, rfl⟩
      refine l_e rfl rfl rfl (e_appendRow rfl Try.underlying22 ti25 rfl rfl rfl rfl rfl rfl (by first | exact two_ones _ _ | exact byC_ones _ | exact chC_ones _ | exact pcC_ones _ | simp [Value.oneCell', str, u8] | exact ones1 (by assumption)) (by simp only [maxLen]; omega) (by omega)) ?_
      rintro v64 _ _ ⟨rfl, rfl⟩
      refine l_heap (H' := tvec 25 3 pcC v64 (cl ++ [cutA (nth l k pc0) j, cutB (nth l k pc0) j]) :: _) ?_ (fun _ h => by simpa [tvec] using h)
      refine l_q rfl rfl rfl (q_assign rfl rfl) ?_
      refine l_nil ?_
      refine n_block ?_
      refine n_then ?_
      refine t_region ?_
      refine l_q rfl rfl rfl (q_add64 rfl rfl rfl (by omega)) ?_
      refine l_q rfl rfl rfl (q_move rfl rfl) ?_
      refine l_nil ?_
      refine n_roundE ((k + 1, v64, cl ++ [cutA (nth l k pc0) j, cutB (nth l k pc0) j])) ?_ ?_ (sub_cons rfl (sub_cons' rfl (by rw [tot_take (by omega)]; rfl) (sub_cons rfl sub_nil))) (sub_cons rfl (sub_cons rfl (sub_cons rfl (sub_cons rfl (sub_cons rfl (sub_cons rfl (sub_cons rfl sub_nil))))))) (fun _ h => by try dsimp only; exact subC_st h)
      · refine ⟨(show k + 1 ≤ _ by omega), same_step j (by omega) hsame, ?_, ?_⟩
        · show (cl ++ [_, _]).length = 2 * (k + 1); simp only [List.length_append, List.length_cons, List.length_nil]; omega
        · show tot (cl ++ [_, _]) = tot (l.take (k + 1)); rw [tot_take (by omega), tot_app, hct]; simp only [tot_cons, cutA, cutB, List.length_take, List.length_drop]; show _ + (_ + (_ + 0)) = _; omega
      · show l.length - (k + 1) < l.length - k; omega
    · skip
      try simp at hc1
      rw [List.take_of_length_le (by omega)] at *
      refine t_exit ?_
      refine n_exit_then ?_
      refine n_exit_then ?_
      refine n_exit_block ?_
      refine n_then ?_
      refine t_seq ?_
      refine t_seq ?_
      refine t_qreg ?_
      refine s_q rfl rfl rfl (q_move rfl rfl) ?_
      refine s_q rfl rfl rfl (q_gtr rfl rfl rfl) ?_
      refine s_q rfl rfl rfl (q_move rfl rfl) ?_
      refine s_short 3 2 68 72 71 false _ _ rfl rfl rfl rfl rfl rfl (fun h72 => by
          try simp at h72
          refine s_g rfl rfl rfl rfl rfl rfl (q_move rfl rfl) ?_
          refine s_g rfl rfl rfl rfl rfl rfl ((by first | exact q_lenV rfl Try.underlying22 rfl | exact q_len rfl Try.underlying22 rfl (Sl.lenOf hv (List.length_map _)))) ?_
          refine s_g rfl rfl rfl rfl rfl rfl (q_gtr rfl rfl rfl) ?_
          exact s_val rfl
        ) rfl rfl rfl (.inr ⟨rfl, rfl⟩) ?_
      refine s_done ?_
      refine n_then ?_
      refine t_cond rfl (fun hc3 => ?_) (fun hc3 => ?_)
      · skip
        refine t_seq ?_
        refine t_region ?_
        refine l_q rfl rfl rfl (q_assign rfl rfl) ?_
        refine l_nil ?_
        refine n_then ?_
        refine t_ret ?_
        refine n_ret_then ?_
        refine n_ret1 rfl rfl (fun w' hw => ?_)
        -- leaf 0
        exact ⟨rfl, hw.below⟩
      · skip
        have h3 : (decide ((2000 : Int) < (tot l : Int)) || decide ((200 : Int) < (l.length : Int))) = false := hc3
        simp only [Bool.or_eq_false_iff, decide_eq_false_iff_not] at h3
        have h31 := h3.1
        have h32 := h3.2
        refine t_skip ?_
        refine n_then ?_
        refine t_seq ?_
        refine t_freezeT (f := pcC) (l := cl) vc (fun _ => rfl) (fun J1 hJ1 hcl => ?_)
        refine t_region ?_
        refine l_q rfl rfl rfl (q_move rfl rfl) ?_
        refine l_q rfl rfl rfl (q_move rfl rfl) ?_
        refine l_e rfl rfl rfl (eff_call rfl rfl rfl Try.func9 (by kernel_rfl) rfl (fun w hw => fields_calls _ l ifs _ _ _ w (by omega) (fun p hp => Nat.le_trans (hpl p hp) (by decide)) (by omega) (hv.mono hJ1) hw)) ?_
        rintro _ J2 _ ⟨hJ2, rfl, fv, err, rfl, hok⟩
        refine l_q rfl rfl rfl (q_move rfl rfl) ?_
        refine l_q rfl rfl rfl (q_extract rfl rfl rfl) ?_
        refine l_q rfl rfl rfl (q_extract rfl rfl rfl) ?_
        refine l_q rfl rfl rfl (q_assign rfl rfl) ?_
        refine l_q rfl rfl rfl (q_assign rfl rfl) ?_
        refine l_nil ?_
        refine n_then ?_
        refine t_seq ?_
        refine t_region ?_
        refine l_q rfl rfl rfl (q_move rfl rfl) ?_
        refine l_q rfl rfl rfl (q_move rfl rfl) ?_
        refine l_e rfl rfl rfl (eff_call rfl rfl rfl Try.func9 (by kernel_rfl) rfl (fun w hw => fields_calls _ cl ifs _ _ _ w (by omega) (fun p hp => Nat.le_trans (tot_mem hp) (by omega)) (by omega) (hcl.mono hJ2) hw)) ?_
        rintro _ J3 _ ⟨hJ3, rfl, gv, err2, rfl, hok2⟩
        rw [same_fields hsame] at hok2
        obtain ⟨xs, hx1, hx2, hxn, hxi, rfl⟩ := fields_both hok hJ3 hok2
        obtain ⟨us, hfu, hus⟩ := id hx1
        refine l_q rfl rfl rfl (q_move rfl rfl) ?_
        refine l_q rfl rfl rfl (q_extract rfl rfl rfl) ?_
        refine l_q rfl rfl rfl (q_extract rfl rfl rfl) ?_
        refine l_q rfl rfl rfl (q_assign rfl rfl) ?_
        refine l_q rfl rfl rfl (q_assign rfl rfl) ?_
        refine l_nil ?_
        refine n_then ?_
        refine t_seq ?_
        refine t_qreg ?_
        refine s_q rfl rfl rfl (q_move rfl rfl) ?_
        refine s_q rfl rfl rfl (q_move rfl rfl) ?_
        refine s_q rfl rfl rfl (q_eql rfl rfl rfl) ?_
        refine s_q rfl rfl rfl (q_move rfl rfl) ?_
        refine s_short 3 3 88 92 91 true _ _ rfl rfl rfl rfl rfl rfl (fun h92 => by
            try simp at h92
            refine s_g rfl rfl rfl rfl rfl rfl (q_move rfl rfl) ?_
            refine s_g rfl rfl rfl rfl rfl rfl (q_move rfl rfl) ?_
            refine s_g rfl rfl rfl rfl rfl rfl (quiet_call rfl rfl rfl Try.func13 (by kernel_rfl) rfl (fun w hw => same_pure _ _ xs xs w hxn hxn hxi (hx1.mono hw.le) (hx2.mono hw.le))) ?_
            exact s_val rfl
          ) rfl rfl rfl (.inl ⟨rfl, rfl⟩) ?_
        refine s_q rfl rfl rfl (q_assign rfl rfl) ?_
        refine s_done ?_
        refine n_then ?_
        refine t_ret ?_
        refine n_ret1 rfl rfl (fun w' hw => ?_)
        -- leaf 1
        refine ⟨?_, (hw.less ((hJ1.trans hJ2).trans hJ3)).below⟩
        simp
end Go.Tri
