/-
  A text of a proof (SC).
-/
import Derived.Test.YtigihljkacoopaaSB
namespace Go.Tri
open Go.Proofs Go.RowKit
def FieldsPost (l : List Pc) (ifs : List UInt8) (I : Look) (F : List HA) : Value → Look → List HA → Prop := fun v I' H' => Le I I' ∧ H' = F ∧
  ∃ fv err, v = .tuple #[fv, .int .i64 err] ∧ (if okFields (fieldsAll l ifs) then err = 0 ∧ RL I' fv (fieldsAll l ifs) else err = 66 ∧ fv = .slice none 0 0)
theorem ti4 : TI Try.prog 4 1 1 (.bool false) := ti_of (by kernel_rfl)
theorem ti9 : TI Try.prog 9 1 16 (str []) := ti_of (by kernel_rfl)
theorem ti25 : TI Try.prog 25 3 24 (.agg #[str [], .bool false, .bool false]) := ti_of (by kernel_rfl)
set_option maxRecDepth 10000 in
theorem refFields_calls (vl : Value) (l : List Pc) (ifs : List UInt8) (I0 : Look) (F0 : List HA) (w0 w : World) (hifs : ifs.length ≤ 9223372036854775807) (hll : l.length ≤ 4611686018427387904) (htot : tot l ≤ 20000) (hv : Sl I0 3 vl (l.map pcC)) (hw0 : St w0 I0 F0 w) : Calls Try.prog 10 [vl, str ifs].toArray w fun e w' => ∃ v, e = .returned v ∧ ∃ I' H', FieldsPost l ifs I0 F0 v I' H' ∧ St w I' H' w' := by
  refine enter Try.func10 rfl Try.ntmps10 rfl (hw0.self) ?_
  refine t_seq ?_
  refine t_region ?_
  refine l_q rfl rfl rfl (q_assign rfl rfl) ?_
  refine l_q rfl rfl rfl (q_assign rfl rfl) ?_
  refine l_nil ?_
  refine n_then ?_
  refine t_seq ?_
  refine t_region ?_
  refine l_q rfl rfl rfl (q_assign rfl rfl) ?_
  refine l_nil ?_
  refine n_then ?_
  refine t_seq ?_
  refine t_region ?_
  refine l_q rfl rfl rfl (q_assign rfl rfl) ?_
  refine l_nil ?_
  refine n_then ?_
  refine t_seq ?_
  refine t_region ?_
  refine l_q rfl rfl rfl (q_assign rfl rfl) ?_
  refine l_nil ?_
  refine n_then ?_
  refine t_seq ?_
  refine t_region ?_
  refine l_q rfl rfl rfl (q_assign rfl rfl) ?_
  refine l_nil ?_
  refine n_then ?_
  refine t_seq ?_
  refine t_seq ?_
  refine t_region ?_
  refine l_q rfl rfl rfl (q_assign rfl rfl) ?_
  refine l_nil ?_
  refine n_then ?_
  refine t_block ?_
  refine t_loopE (ι := Nat × Value × Value × Look × List Value × FSt) (fun zz => zz.1 ≤ l.length ∧ Le I0 zz.2.2.2.1 ∧ RowsOf zz.2.2.2.1 zz.2.2.2.2.1 zz.2.2.2.2.2.out ∧ (evs' (l.drop zz.1) ifs).foldl stepF zz.2.2.2.2.2 = (evs' l ifs).foldl stepF startF ∧ zz.2.2.2.2.2.cur.length + zz.2.2.2.2.2.out.length + tot (l.drop zz.1) ≤ 20000) (fun zz => l.length - zz.1) (fun zz => [(10, .int .i64 (zz.1 : Int)), (6, zz.2.1), (7, zz.2.2.1), (8, .bool zz.2.2.2.2.2.begun), (9, .bool zz.2.2.2.2.2.soft)]) [(0, _), (1, _), (4, _), (5, _)] (fun zz => zz.2.2.2.1) (fun zz => (tvec 33 1 oneC zz.2.1 zz.2.2.2.2.1 :: tvec 49 2 chC zz.2.2.1 zz.2.2.2.2.2.cur :: F0)) (0, .slice none 0 0, .slice none 0 0, I0, [], startF) ?_ (sub_cons rfl (sub_cons rfl (sub_cons rfl (sub_cons rfl (sub_cons rfl sub_nil))))) (sub_cons rfl (sub_cons rfl (sub_cons rfl (sub_cons rfl sub_nil)))) (fun _ h => st_nilT 33 1 oneC (st_nilT 49 2 chC h)) ?_
  · exact ⟨Nat.zero_le _, Le.refl _, ⟨rfl, fun _ _ _ h => by cases h⟩, rfl, by simpa [startF] using htot⟩
  rintro ⟨i, vo, vc, J, us, f⟩ ⟨hi, hJ, hus, htt, hpot⟩
  dsimp only at *
  have hv' := hv.mono hJ
  have hul := hus.1
  refine t_seq ?_
  refine t_seq ?_
  refine t_region ?_
  refine l_q rfl rfl rfl (q_move rfl rfl) ?_
  refine l_q rfl rfl rfl (q_move rfl rfl) ?_
  refine l_q rfl rfl rfl ((by first | exact q_lenV rfl Try.underlying22 rfl | exact q_len rfl Try.underlying22 rfl (Sl.lenOf hv' (List.length_map _)) | exact q_len rfl Try.underlying22 rfl (Sl.lenOf hvo (List.length_map _)) | exact q_len rfl Try.underlying22 rfl (Sl.lenOf hrow (List.length_map _)))) ?_
  refine l_q rfl rfl rfl (q_lss rfl rfl rfl) ?_
  refine l_nil ?_
  refine n_then ?_
  refine t_cond rfl (fun hc0 => ?_) (fun hc0 => ?_)
  · skip
    try simp at hc0
    refine t_skip ?_
    refine n_then ?_
    refine t_seq ?_
    refine t_block ?_
    refine t_seq ?_
    refine t_region ?_
    refine l_q rfl rfl rfl (q_move rfl rfl) ?_
    refine l_q rfl rfl rfl (q_move rfl rfl) ?_
    refine l_q rfl rfl rfl ((by first | exact q_indexAddrVN rfl Try.underlying22 ti25 rfl rfl (by omega) | exact q_indexAddrN rfl Try.underlying22 ti25 rfl rfl (Sl.shape hv' (List.length_map _)) (by omega) | exact q_indexAddrN rfl Try.underlying22 ti25 rfl rfl (Sl.shape hvo (List.length_map _)) (by omega) | exact q_indexAddrV rfl Try.underlying22 ti25 rfl rfl (by omega) | exact q_indexAddr rfl Try.underlying22 ti25 rfl rfl (Sl.shape hv' (List.length_map _)) (by omega) | exact q_indexAddr rfl Try.underlying22 ti25 rfl rfl (Sl.shape hvo (List.length_map _)) (by omega))) ?_
    refine l_q rfl rfl rfl ((by first | exact q_load_rowA rfl Try.underlying25 ti25 rfl rfl rfl | exact q_load_agg rfl Try.underlying25 ti25 rfl rfl (rds_pc (i := i) hv' (by omega)))) ?_
    refine l_e rfl rfl rfl (e_alloc rfl ti25 rfl) ?_
    rintro _ _ _ ⟨b11, rfl, rfl, rfl⟩
    refine l_e0 rfl rfl ((by first | exact e_store_all rfl ti25 rfl rfl rfl (by first | exact chC_ones _ | exact pcC_ones _ | simp [Value.oneCell', str, u8]) rfl | exact e_store_agg rfl ti25 rfl rfl rfl (by first | exact chC_ones _ | exact pcC_ones _ | simp [Value.oneCell', str, u8]) rfl)) ?_
    rintro _ _ _ ⟨rfl, rfl⟩
    refine l_nil ?_
    refine n_then ?_
    refine t_cutE (ι := FSt) (fun zz => RowsOf J us zz.out ∧ (((nth l i pc0).t.drop 0).map (evB (nth l i pc0) ifs) ++ evs' (l.drop (i + 1)) ifs).foldl stepF zz = (evs' l ifs).foldl stepF startF ∧ zz.cur.length + zz.out.length + (nth l i pc0).t.length + tot (l.drop (i + 1)) ≤ 20000) (fun zz => [(8, .bool zz.begun), (9, .bool zz.soft)]) [(10, _), (6, _), (7, _), (0, _), (1, _), (4, _), (5, _), (19, _), (11, _)] (fun zz => J) (fun zz => (row b11 25 (pcC (nth l i pc0)) :: tvec 33 1 oneC vo us :: tvec 49 2 chC vc zz.cur :: F0)) (sub_cons rfl (sub_cons rfl (sub_cons rfl (sub_cons rfl (sub_cons rfl (sub_cons rfl (sub_cons rfl (sub_cons rfl (sub_cons rfl sub_nil))))))))) ?_ ?_
    · skip
      refine t_seq ?_
      refine t_region ?_
      refine l_q rfl rfl rfl (q_fieldAddr rfl Try.underlying25 rfl rfl ti4 rfl rfl) ?_
      refine l_q rfl rfl rfl ((by first | exact q_load_row rfl Try.underlying4 rfl rfl (by rfl) | exact q_load rfl Try.underlying4 rfl rfl (rd_row1 (i := i) hvo (by omega)))) ?_
      refine l_nil ?_
      refine n_then ?_
      refine t_cond rfl (fun hc1 => ?_) (fun hc1 => ?_)
      · skip
        have hq1 : (nth l i pc0).q = true := hc1
        refine t_seq ?_
        refine t_region ?_
        refine l_q rfl rfl rfl (q_assign rfl rfl) ?_
        refine l_nil ?_
        refine n_then ?_
        refine t_region ?_
        refine l_q rfl rfl rfl (q_assign rfl rfl) ?_
        refine l_nil ?_
        refine n_cut ({ f with begun := true, soft := false }) ?_ (sub_cons rfl (sub_cons rfl sub_nil)) (sub_cons rfl (sub_cons rfl (sub_cons rfl (sub_cons rfl (sub_cons rfl (sub_cons rfl (sub_cons rfl (sub_cons rfl (sub_cons rfl sub_nil))))))))) (fun _ h => by try dsimp only; exact subC_st h)
        · have := tot_drop (l := l) (i := i) (by omega)
          refine ⟨hus, ?_, by dsimp only; omega⟩; rw [← htt, evs_drop (l := l) (i := i) ifs (by omega)]; simp [evP', hq1, stepF]
      · skip
        have hq1 : (nth l i pc0).q = false := hc1
        refine t_skip ?_
        refine n_cut (f) ?_ (sub_cons rfl (sub_cons rfl sub_nil)) (sub_cons rfl (sub_cons rfl (sub_cons rfl (sub_cons rfl (sub_cons rfl (sub_cons rfl (sub_cons rfl (sub_cons rfl (sub_cons rfl sub_nil))))))))) (fun _ h => by try dsimp only; exact subC_st h)
        · have := tot_drop (l := l) (i := i) (by omega)
          refine ⟨hus, ?_, by omega⟩; rw [← htt, evs_drop (l := l) (i := i) ifs (by omega)]; simp [evP', hq1]
    rintro q ⟨hus, htt, hpot⟩
    dsimp only at *
    refine t_seq ?_
    refine t_region ?_
    refine l_q rfl rfl rfl (q_assign rfl rfl) ?_
    refine l_nil ?_
    refine n_then ?_
    refine t_block ?_
    refine t_loopE (ι := Nat × Value × Value × Look × List Value × FSt) (fun zz => zz.1 ≤ (nth l i pc0).t.length ∧ Le I0 zz.2.2.2.1 ∧ RowsOf zz.2.2.2.1 zz.2.2.2.2.1 zz.2.2.2.2.2.out ∧ (((nth l i pc0).t.drop zz.1).map (evB (nth l i pc0) ifs) ++ evs' (l.drop (i + 1)) ifs).foldl stepF zz.2.2.2.2.2 = (evs' l ifs).foldl stepF startF ∧ zz.2.2.2.2.2.cur.length + zz.2.2.2.2.2.out.length + ((nth l i pc0).t.length - zz.1) + tot (l.drop (i + 1)) ≤ 20000) (fun zz => (nth l i pc0).t.length - zz.1) (fun zz => [(12, .int .i64 (zz.1 : Int)), (6, zz.2.1), (7, zz.2.2.1), (8, .bool zz.2.2.2.2.2.begun), (9, .bool zz.2.2.2.2.2.soft)]) [(10, _), (0, _), (1, _), (4, _), (5, _), (19, _), (11, _)] (fun zz => zz.2.2.2.1) (fun zz => (row b11 25 (pcC (nth l i pc0)) :: tvec 33 1 oneC zz.2.1 zz.2.2.2.2.1 :: tvec 49 2 chC zz.2.2.1 zz.2.2.2.2.2.cur :: F0)) (0, vo, vc, J, us, q) ?_ (sub_cons rfl (sub_cons rfl (sub_cons rfl (sub_cons rfl (sub_cons rfl sub_nil))))) (sub_cons rfl (sub_cons rfl (sub_cons rfl (sub_cons rfl (sub_cons rfl (sub_cons rfl (sub_cons rfl sub_nil))))))) (fun _ h => subC_st h) ?_
    · exact ⟨Nat.zero_le _, hJ, hus, htt, by omega⟩
    rintro ⟨k, vo, vc, J, us, f⟩ ⟨hk, hJ, hus, htt, hpot⟩
    dsimp only at *
    have hul := hus.1
    refine t_seq ?_
    refine t_seq ?_
    refine t_region ?_
    refine l_q rfl rfl rfl (q_move rfl rfl) ?_
    refine l_q rfl rfl rfl (q_fieldAddr rfl Try.underlying25 rfl rfl ti9 rfl rfl) ?_
    refine l_q rfl rfl rfl ((by first | exact q_load_row rfl Try.underlying9 rfl rfl (by rfl) | exact q_load rfl Try.underlying9 rfl rfl (rd_row1 (i := i) hvo (by omega)))) ?_
    refine l_q rfl rfl rfl (q_len_str rfl Try.underlying9 rfl) ?_
    refine l_q rfl rfl rfl (q_lss rfl rfl rfl) ?_
    refine l_nil ?_
    refine n_then ?_
    refine t_cond rfl (fun hc2 => ?_) (fun hc2 => ?_)
    · skip
      try simp at hc2
      have hkl : k < (nth l i pc0).t.length := by omega
      refine t_skip ?_
      refine n_then ?_
      refine t_seq ?_
      refine t_block ?_
      refine t_seq ?_
      refine t_region ?_
      refine l_q rfl rfl rfl (q_fieldAddr rfl Try.underlying25 rfl rfl ti9 rfl rfl) ?_
      refine l_q rfl rfl rfl ((by first | exact q_load_row rfl Try.underlying9 rfl rfl (by rfl) | exact q_load rfl Try.underlying9 rfl rfl (rd_row1 (i := i) hvo (by omega)))) ?_
      refine l_q rfl rfl rfl (q_move rfl rfl) ?_
      refine l_q rfl rfl rfl ((by first | exact q_index_strN rfl Try.underlying9 rfl rfl (by omega) | exact q_index_str rfl Try.underlying9 rfl rfl (by omega))) ?_
      refine l_q rfl rfl rfl (q_assign rfl rfl) ?_
      refine l_nil ?_
      refine n_then ?_
      refine t_seq ?_
      refine t_seq ?_
      refine t_qreg ?_
      refine s_q rfl rfl rfl (q_fieldAddr rfl Try.underlying25 rfl rfl ti4 rfl rfl) ?_
      refine s_q rfl rfl rfl ((by first | exact q_load_row rfl Try.underlying4 rfl rfl (by rfl) | exact q_load rfl Try.underlying4 rfl rfl (rd_row1 (i := i) hvo (by omega)))) ?_
      refine s_q rfl rfl rfl (q_move rfl rfl) ?_
      refine s_short 3 2 41 45 44 false _ _ rfl rfl rfl rfl rfl rfl (fun h45 => by
          try simp at h45
          refine s_g rfl rfl rfl rfl rfl rfl (q_fieldAddr rfl Try.underlying25 rfl rfl ti4 rfl rfl) ?_
          refine s_g rfl rfl rfl rfl rfl rfl ((by first | exact q_load_row rfl Try.underlying4 rfl rfl (by rfl) | exact q_load rfl Try.underlying4 rfl rfl (rd_row1 (i := i) hvo (by omega)))) ?_
          refine s_g rfl rfl rfl rfl rfl rfl (q_not rfl rfl) ?_
          exact s_val rfl
        ) rfl rfl rfl (.inr ⟨rfl, rfl⟩) ?_
      refine s_q rfl rfl rfl (q_move rfl rfl) ?_
      refine s_short 4 7 46 51 50 false _ _ rfl rfl rfl rfl rfl rfl (fun h51 => by
          try simp at h51
          refine s_g rfl rfl rfl rfl rfl rfl (q_move rfl rfl) ?_
          refine s_g rfl rfl rfl rfl rfl rfl (q_move rfl rfl) ?_
          refine s_g rfl rfl rfl rfl rfl rfl (quiet_call rfl rfl rfl Try.func16 (by kernel_rfl) rfl ((fun w _ => has_pure _ _ w hifs))) ?_
          refine s_g rfl rfl rfl rfl rfl rfl (q_not rfl rfl) ?_
          exact s_val rfl
        ) rfl rfl rfl (.inr ⟨rfl, rfl⟩) ?_
      refine s_done ?_
      refine n_then ?_
      refine t_cond rfl (fun hc3 => ?_) (fun hc3 => ?_)
      · skip
        refine t_seq ?_
        refine t_region ?_
        refine l_q rfl rfl rfl (q_move rfl rfl) ?_
        refine l_q rfl rfl rfl (q_move rfl rfl) ?_
        refine l_q rfl rfl rfl (q_fieldAddr rfl Try.underlying25 rfl rfl ti4 rfl rfl) ?_
        refine l_q rfl rfl rfl ((by first | exact q_load_row rfl Try.underlying4 rfl rfl (by rfl) | exact q_load rfl Try.underlying4 rfl rfl (rd_row1 (i := i) hvo (by omega)))) ?_
        refine l_q rfl rfl rfl (q_build (pl := [(_, _), (_, _)]) (cs := #[_, _]) rfl Try.underlying49 ti49 ⟨rfl, ⟨_, _, ti5⟩, rfl, ⟨_, _, ti4⟩, trivial⟩ rfl rfl) ?_
        refine l_e rfl rfl rfl (e_buildSlice1 rfl Try.underlying33 ti49 rfl rfl rfl (by first | exact One.cells (by assumption) | exact One.cells (Sl.one (by assumption)) | rfl) rfl) ?_
        rintro _ _ _ ⟨b57, rfl, rfl, rfl⟩
        refine l_e rfl rfl rfl (e_appendT (f := chC) (c := (⟨nth (nth l i pc0).t k 0, (nth l i pc0).q⟩ : Ch)) rfl Try.underlying33 ti49 rfl rfl rfl rfl rfl rfl rfl (by first | exact byC_ones _ | exact chC_ones _ | exact pcC_ones _ | simp [Value.oneCell', str, u8] | exact ones1 (by assumption)) (by simp only [maxLen]; omega) (by omega)) ?_
        rintro v58 _ _ ⟨rfl, rfl⟩
        refine l_q rfl rfl rfl (q_assign rfl rfl) ?_
        refine l_nil ?_
        refine n_then ?_
        refine t_seq ?_
        refine t_region ?_
        refine l_q rfl rfl rfl (q_assign rfl rfl) ?_
        refine l_nil ?_
        refine n_then ?_
        refine t_seq ?_
        refine t_region ?_
        refine l_q rfl rfl rfl (q_assign rfl rfl) ?_
        refine l_nil ?_
        refine n_then ?_
        refine t_exit ?_
        refine n_exit_then ?_
        refine n_exit_block ?_
        refine n_then ?_
        refine t_region ?_
        refine l_q rfl rfl rfl (q_move rfl rfl) ?_
        refine l_q rfl rfl rfl (q_add64 rfl rfl rfl (by omega)) ?_
        refine l_q rfl rfl rfl (q_assign rfl rfl) ?_
        refine l_nil ?_
        refine n_roundE ((k + 1, vo, v58, J, us, ⟨f.out, f.cur ++ [⟨nth (nth l i pc0).t k 0, (nth l i pc0).q⟩], true, false⟩)) ?_ ?_ (sub_cons rfl (sub_cons rfl (sub_cons rfl (sub_cons rfl (sub_cons rfl sub_nil))))) (sub_cons rfl (sub_cons rfl (sub_cons rfl (sub_cons rfl (sub_cons rfl (sub_cons rfl (sub_cons rfl sub_nil))))))) (fun _ h => by try dsimp only; exact subC_st h)
        · refine ⟨(show k + 1 ≤ _ by omega), hJ, hus, ?_, ?_⟩
          · rw [← htt, evP_cons (evB (nth l i pc0) ifs) hkl, evB_plain hc3]; simp only [List.cons_append, List.foldl_cons, stepF]
          · simp only [List.length_append, List.length_cons, List.length_nil]; omega
        · show (nth l i pc0).t.length - (k + 1) < (nth l i pc0).t.length - k; omega
      · skip
        refine t_skip ?_
        refine n_then ?_
        refine t_seq ?_
        refine t_qreg ?_
        refine s_q rfl rfl rfl (q_move rfl rfl) ?_
        refine s_q rfl rfl rfl (q_eql_u8c rfl rfl rfl rfl) ?_
        refine s_q rfl rfl rfl (q_move rfl rfl) ?_
        refine s_short 2 2 61 64 63 false _ _ rfl rfl rfl rfl rfl rfl (fun h64 => by
            try simp at h64
            refine s_g rfl rfl rfl rfl rfl rfl (q_move rfl rfl) ?_
            refine s_g rfl rfl rfl rfl rfl rfl (q_eql_u8c rfl rfl rfl rfl) ?_
            exact s_val rfl
          ) rfl rfl rfl (.inr ⟨rfl, rfl⟩) ?_
        refine s_q rfl rfl rfl (q_move rfl rfl) ?_
        refine s_short 2 6 65 68 67 false _ _ rfl rfl rfl rfl rfl rfl (fun h68 => by
            try simp at h68
            refine s_g rfl rfl rfl rfl rfl rfl (q_move rfl rfl) ?_
            refine s_g rfl rfl rfl rfl rfl rfl (q_eql_u8c rfl rfl rfl rfl) ?_
            exact s_val rfl
          ) rfl rfl rfl (.inr ⟨rfl, rfl⟩) ?_
        refine s_q rfl rfl rfl (q_assign rfl rfl) ?_
        refine s_done ?_
        refine n_then ?_
        refine t_block ?_
        refine t_seq ?_
        refine t_region ?_
        refine l_q rfl rfl rfl (q_move rfl rfl) ?_
        refine l_q rfl rfl rfl (q_assign rfl rfl) ?_
        refine l_nil ?_
        refine n_then ?_
        refine t_cond rfl (fun hc4 => ?_) (fun hc4 => ?_)
        · skip
          refine t_seq ?_
          refine t_region ?_
          refine l_freezeT (f := chC) (l := f.cur) vc (fun _ => rfl) (fun J2 hJ2 hcur => ?_)
          refine l_q rfl rfl rfl (q_move rfl rfl) ?_
          refine l_q rfl rfl rfl (q_move rfl rfl) ?_
          refine l_e rfl rfl rfl (e_buildSlice1 rfl Try.underlying26 ti33 rfl rfl rfl (by first | exact One.cells (by assumption) | exact One.cells (Sl.one (by assumption)) | rfl) rfl) ?_
          rintro _ _ _ ⟨b76, rfl, rfl, rfl⟩
          refine l_e rfl rfl rfl (e_appendT (f := oneC) (c := vc) rfl Try.underlying26 ti33 rfl rfl rfl rfl rfl rfl rfl (ones1 hcur.one) (by simp only [maxLen]; omega) (by omega)) ?_
          rintro v77 _ _ ⟨rfl, rfl⟩
          refine l_q rfl rfl rfl (q_assign rfl rfl) ?_
          refine l_nil ?_
          refine n_then ?_
          refine t_seq ?_
          refine t_region ?_
          refine l_q rfl rfl rfl (q_assign rfl rfl) ?_
          refine l_nil ?_
          refine n_then ?_
          refine t_seq ?_
          refine t_region ?_
          refine l_q rfl rfl rfl (q_assign rfl rfl) ?_
          refine l_nil ?_
          refine n_then ?_
          refine t_region ?_
          refine l_q rfl rfl rfl (q_move rfl rfl) ?_
          refine l_q rfl rfl rfl (q_assign rfl rfl) ?_
          refine l_nil ?_
          refine n_block ?_
          refine n_block ?_
          refine n_then ?_
          refine t_region ?_
          refine l_q rfl rfl rfl (q_move rfl rfl) ?_
          refine l_q rfl rfl rfl (q_add64 rfl rfl rfl (by omega)) ?_
          refine l_q rfl rfl rfl (q_assign rfl rfl) ?_
          refine l_nil ?_
          refine n_roundE ((k + 1, v77, .slice none 0 0, J2, us ++ [vc], ⟨f.out ++ [f.cur], [], false, isSoftB (nth (nth l i pc0).t k 0)⟩)) ?_ ?_ (sub_cons rfl (sub_cons rfl (sub_cons rfl (sub_cons rfl (sub_cons rfl sub_nil))))) (sub_cons rfl (sub_cons rfl (sub_cons rfl (sub_cons rfl (sub_cons rfl (sub_cons rfl (sub_cons rfl sub_nil))))))) (fun _ h => by dsimp only; exact subC_st (st_nilT 49 2 chC h))
          · refine ⟨(show k + 1 ≤ _ by omega), hJ.trans hJ2, (hus.mono hJ2).snoc hcur, ?_, ?_⟩
            · rw [← htt, evP_cons (evB (nth l i pc0) ifs) hkl]; cases hs : isSoftB (nth (nth l i pc0).t k 0)
              · rw [evB_hard hc3 hs]; simp [stepF, hc4]
              · rw [evB_soft hc3 hs]; simp [stepF, hc4]
            · simp only [List.length_append, List.length_cons, List.length_nil]; omega
          · show (nth l i pc0).t.length - (k + 1) < (nth l i pc0).t.length - k; omega
        · skip
          refine t_seq ?_
          refine t_region ?_
          refine l_q rfl rfl rfl (q_move rfl rfl) ?_
          refine l_q rfl rfl rfl (q_assign rfl rfl) ?_
          refine l_nil ?_
          refine n_then ?_
          refine t_cond rfl (fun hc5 => ?_) (fun hc5 => ?_)
          · skip
            refine t_skip ?_
            refine n_block ?_
            refine n_block ?_
            refine n_then ?_
            refine t_region ?_
            refine l_q rfl rfl rfl (q_move rfl rfl) ?_
            refine l_q rfl rfl rfl (q_add64 rfl rfl rfl (by omega)) ?_
            refine l_q rfl rfl rfl (q_assign rfl rfl) ?_
            refine l_nil ?_
            refine n_roundE ((k + 1, vo, vc, J, us, f)) ?_ ?_ (sub_cons rfl (sub_cons rfl (sub_cons rfl (sub_cons rfl (sub_cons rfl sub_nil))))) (sub_cons rfl (sub_cons rfl (sub_cons rfl (sub_cons rfl (sub_cons rfl (sub_cons rfl (sub_cons rfl sub_nil))))))) (fun _ h => by try dsimp only; exact subC_st h)
            · refine ⟨(show k + 1 ≤ _ by omega), hJ, hus, ?_, ?_⟩
              · rw [← htt, evP_cons (evB (nth l i pc0) ifs) hkl, evB_soft hc3 hc5]; simp only [List.cons_append, List.foldl_cons, stepF, hc4, Bool.false_eq_true, if_false]
              · dsimp only; omega
            · show (nth l i pc0).t.length - (k + 1) < (nth l i pc0).t.length - k; omega
          · skip
            refine t_seq ?_
            refine t_region ?_
            refine l_q rfl rfl rfl (q_move rfl rfl) ?_
            refine l_q rfl rfl rfl (q_assign rfl rfl) ?_
            refine l_nil ?_
            refine n_then ?_
            refine t_cond rfl (fun hc6 => ?_) (fun hc6 => ?_)
            · skip
              refine t_region ?_
              refine l_q rfl rfl rfl (q_assign rfl rfl) ?_
              refine l_nil ?_
              refine n_block ?_
              refine n_block ?_
              refine n_then ?_
              refine t_region ?_
              refine l_q rfl rfl rfl (q_move rfl rfl) ?_
              refine l_q rfl rfl rfl (q_add64 rfl rfl rfl (by omega)) ?_
              refine l_q rfl rfl rfl (q_assign rfl rfl) ?_
              refine l_nil ?_
              refine n_roundE ((k + 1, vo, vc, J, us, { f with soft := false })) ?_ ?_ (sub_cons rfl (sub_cons rfl (sub_cons rfl (sub_cons rfl (sub_cons rfl sub_nil))))) (sub_cons rfl (sub_cons rfl (sub_cons rfl (sub_cons rfl (sub_cons rfl (sub_cons rfl (sub_cons rfl sub_nil))))))) (fun _ h => by try dsimp only; exact subC_st h)
              · refine ⟨(show k + 1 ≤ _ by omega), hJ, hus, ?_, ?_⟩
                · rw [← htt, evP_cons (evB (nth l i pc0) ifs) hkl, evB_hard hc3 hc5]; simp only [List.cons_append, List.foldl_cons, stepF, hc4, hc6, Bool.false_eq_true, if_false, if_true]
                · dsimp only; omega
              · show (nth l i pc0).t.length - (k + 1) < (nth l i pc0).t.length - k; omega
            · skip
              refine t_region ?_
              refine l_q rfl rfl rfl (q_move rfl rfl) ?_
              refine l_e rfl rfl rfl (e_buildSlice1 rfl Try.underlying26 ti33 rfl rfl rfl (by first | exact One.cells (by assumption) | exact One.cells (Sl.one (by assumption)) | rfl) rfl) ?_
              rintro _ _ _ ⟨b70, rfl, rfl, rfl⟩
              refine l_e rfl rfl rfl (e_appendT (f := oneC) (c := .slice none 0 0) rfl Try.underlying26 ti33 rfl rfl rfl rfl rfl rfl rfl (ones1 ⟨rfl, rfl⟩) (by simp only [maxLen]; omega) (by omega)) ?_
              rintro v71 _ _ ⟨rfl, rfl⟩
              refine l_q rfl rfl rfl (q_assign rfl rfl) ?_
              refine l_nil ?_
              refine n_block ?_
              refine n_block ?_
              refine n_then ?_
              refine t_region ?_
              refine l_q rfl rfl rfl (q_move rfl rfl) ?_
              refine l_q rfl rfl rfl (q_add64 rfl rfl rfl (by omega)) ?_
              refine l_q rfl rfl rfl (q_assign rfl rfl) ?_
              refine l_nil ?_
              refine n_roundE ((k + 1, v71, vc, J, us ++ [.slice none 0 0], { f with out := f.out ++ [[]] })) ?_ ?_ (sub_cons rfl (sub_cons rfl (sub_cons rfl (sub_cons rfl (sub_cons rfl sub_nil))))) (sub_cons rfl (sub_cons rfl (sub_cons rfl (sub_cons rfl (sub_cons rfl (sub_cons rfl (sub_cons rfl sub_nil))))))) (fun _ h => by try dsimp only; exact subC_st h)
              · refine ⟨(show k + 1 ≤ _ by omega), hJ, hus.snoc (sl_nil (fun _ h => by cases h)), ?_, ?_⟩
                · rw [← htt, evP_cons (evB (nth l i pc0) ifs) hkl, evB_hard hc3 hc5]; simp only [List.cons_append, List.foldl_cons, stepF, hc4, hc6, Bool.false_eq_true, if_false]
                · simp only [List.length_append, List.length_cons, List.length_nil]; omega
              · show (nth l i pc0).t.length - (k + 1) < (nth l i pc0).t.length - k; omega
    · skip
      try simp at hc2
      refine t_exit ?_
      refine n_exit_then ?_
      refine n_exit_then ?_
      refine n_exit_block ?_
      refine n_block ?_
      refine n_then ?_
      refine t_region ?_
      refine l_q rfl rfl rfl (q_move rfl rfl) ?_
      refine l_q rfl rfl rfl (q_add64 rfl rfl rfl (by omega)) ?_
      refine l_q rfl rfl rfl (q_assign rfl rfl) ?_
      refine l_nil ?_
      refine n_roundE ((i + 1, vo, vc, J, us, f)) ?_ ?_ (sub_cons rfl (sub_cons rfl (sub_cons rfl (sub_cons rfl (sub_cons rfl sub_nil))))) (sub_cons rfl (sub_cons rfl (sub_cons rfl (sub_cons rfl sub_nil)))) (fun _ h => by try dsimp only; exact subC_st h)
      · refine ⟨(show i + 1 ≤ _ by omega), hJ, hus, ?_, ?_⟩
        · rw [← htt, show (nth l i pc0).t.drop k = [] from List.drop_of_length_le (by omega)]; rfl
        · dsimp only; omega
      · show l.length - (i + 1) < l.length - i; omega
  · skip
    try simp at hc0
    refine t_exit ?_
    refine n_exit_then ?_
    refine n_exit_then ?_
    refine n_exit_block ?_
    refine n_then ?_
    refine t_cutE (ι := Value × Look × List Value) (fun zz => Le I0 zz.2.1 ∧ RowsOf zz.2.1 zz.2.2 (fieldsAll l ifs) ∧ zz.2.2.length ≤ 20001) (fun zz => [(6, zz.1)]) [(0, _), (1, _), (4, _), (5, _), (19, _)] (fun zz => zz.2.1) (fun zz => (tvec 33 1 oneC zz.1 zz.2.2 :: F0)) (sub_cons rfl (sub_cons rfl (sub_cons rfl (sub_cons rfl (sub_cons rfl sub_nil))))) ?_ ?_
    · skip
      refine t_seq ?_
      have hfin : fieldsAll l ifs = endF f := by unfold fieldsAll; rw [← show startF = (⟨[], [], false, false⟩ : FSt) from rfl, ← htt, show l.drop i = [] from List.drop_of_length_le (by omega)]; rfl
      refine t_region ?_
      refine l_q rfl rfl rfl (q_move rfl rfl) ?_
      refine l_nil ?_
      refine n_then ?_
      refine t_cond rfl (fun hc7 => ?_) (fun hc7 => ?_)
      · skip
        refine t_region ?_
        refine l_freezeT (f := chC) (l := f.cur) vc (fun _ => rfl) (fun J2 hJ2 hcur => ?_)
        refine l_q rfl rfl rfl (q_move rfl rfl) ?_
        refine l_q rfl rfl rfl (q_move rfl rfl) ?_
        refine l_e rfl rfl rfl (e_buildSlice1 rfl Try.underlying26 ti33 rfl rfl rfl (by first | exact One.cells (by assumption) | exact One.cells (Sl.one (by assumption)) | rfl) rfl) ?_
        rintro _ _ _ ⟨b86, rfl, rfl, rfl⟩
        refine l_e rfl rfl rfl (e_appendT (f := oneC) (c := vc) rfl Try.underlying26 ti33 rfl rfl rfl rfl rfl rfl rfl (ones1 hcur.one) (by simp only [maxLen]; omega) (by omega)) ?_
        rintro v87 _ _ ⟨rfl, rfl⟩
        refine l_q rfl rfl rfl (q_assign rfl rfl) ?_
        refine l_nil ?_
        refine n_cut ((v87, J2, us ++ [vc])) ?_ (sub_cons rfl sub_nil) (sub_cons rfl (sub_cons rfl (sub_cons rfl (sub_cons rfl (sub_cons rfl sub_nil))))) (fun _ h => by try dsimp only; exact subC_st h)
        · refine ⟨hJ.trans hJ2, ?_, by simp only [List.length_append, List.length_cons, List.length_nil]; omega⟩; rw [hfin, endF, if_pos hc7]; exact (hus.mono hJ2).snoc hcur
      · skip
        refine t_skip ?_
        refine n_cut ((vo, J, us)) ?_ (sub_cons rfl sub_nil) (sub_cons rfl (sub_cons rfl (sub_cons rfl (sub_cons rfl (sub_cons rfl sub_nil))))) (fun _ h => by try dsimp only; exact subC_st h)
        · refine ⟨hJ, ?_, by dsimp only; omega⟩; rw [hfin, endF, if_neg (by simp [hc7])]; exact hus
    rintro ⟨vo, J, us⟩ ⟨hJ, hus, hub⟩
    dsimp only at *
    refine t_seq ?_
    refine t_seq ?_
    refine t_region ?_
    refine l_q rfl rfl rfl (q_assign rfl rfl) ?_
    refine l_nil ?_
    refine n_then ?_
    refine t_block ?_
    refine t_freezeT (f := oneC) (l := us) vo (fun _ => rfl) (fun J3 hJ3 hvo => ?_)
    have hus3 := hus.mono hJ3
    have hul3 := hus.1
    refine t_loopE (ι := Nat) (fun zz => zz ≤ us.length ∧ ∀ j, j < zz → (nth (fieldsAll l ifs) j []).length ≤ 4096) (fun zz => us.length - zz) (fun zz => [(15, .int .i64 (zz : Int))]) [(6, _), (0, _), (1, _), (19, _)] (fun zz => J3) (fun zz => F0) 0 ?_ (sub_cons rfl sub_nil) (sub_cons rfl (sub_cons rfl (sub_cons rfl (sub_cons rfl sub_nil)))) (fun _ h => subC_st h) ?_
    · exact ⟨Nat.zero_le _, fun j hj => absurd hj (Nat.not_lt_zero j)⟩
    rintro i ⟨hi, hall⟩
    dsimp only at *
    refine t_seq ?_
    refine t_seq ?_
    refine t_region ?_
    refine l_q rfl rfl rfl (q_move rfl rfl) ?_
    refine l_q rfl rfl rfl (q_move rfl rfl) ?_
    refine l_q rfl rfl rfl ((by first | exact q_lenV rfl Try.underlying26 rfl | exact q_len rfl Try.underlying26 rfl (Sl.lenOf hv' (List.length_map _)) | exact q_len rfl Try.underlying26 rfl (Sl.lenOf hvo (List.length_map _)) | exact q_len rfl Try.underlying26 rfl (Sl.lenOf hrow (List.length_map _)))) ?_
    refine l_q rfl rfl rfl (q_lss rfl rfl rfl) ?_
    refine l_nil ?_
    refine n_then ?_
    refine t_cond rfl (fun hc8 => ?_) (fun hc8 => ?_)
    · skip
      try simp at hc8
      have hrow := hus3.at_ (i := i) (by omega)
      refine t_skip ?_
      refine n_then ?_
      refine t_seq ?_
      refine t_block ?_
      refine t_seq ?_
      refine t_region ?_
      refine l_q rfl rfl rfl (q_move rfl rfl) ?_
      refine l_q rfl rfl rfl (q_move rfl rfl) ?_
      refine l_q rfl rfl rfl ((by first | exact q_indexAddrVN rfl Try.underlying26 ti33 rfl rfl (by omega) | exact q_indexAddrN rfl Try.underlying26 ti33 rfl rfl (Sl.shape hv' (List.length_map _)) (by omega) | exact q_indexAddrN rfl Try.underlying26 ti33 rfl rfl (Sl.shape hvo (List.length_map _)) (by omega) | exact q_indexAddrV rfl Try.underlying26 ti33 rfl rfl (by omega) | exact q_indexAddr rfl Try.underlying26 ti33 rfl rfl (Sl.shape hv' (List.length_map _)) (by omega) | exact q_indexAddr rfl Try.underlying26 ti33 rfl rfl (Sl.shape hvo (List.length_map _)) (by omega))) ?_
      refine l_q rfl rfl rfl ((by first | exact q_load_row rfl Try.underlying33 rfl rfl (by rfl) | exact q_load rfl Try.underlying33 rfl rfl (rd_row1 (i := i) hvo (by omega)))) ?_
      refine l_q rfl rfl rfl ((by first | exact q_lenV rfl Try.underlying33 rfl | exact q_len rfl Try.underlying33 rfl (Sl.lenOf hv' (List.length_map _)) | exact q_len rfl Try.underlying33 rfl (Sl.lenOf hvo (List.length_map _)) | exact q_len rfl Try.underlying33 rfl (Sl.lenOf hrow (List.length_map _)))) ?_
      refine l_q rfl rfl rfl (q_gtr rfl rfl rfl) ?_
      refine l_nil ?_
      refine n_then ?_
      refine t_cond rfl (fun hc9 => ?_) (fun hc9 => ?_)
      · skip
        try simp at hc9
        refine t_seq ?_
        refine t_region ?_
        refine l_q rfl rfl rfl (q_assign rfl rfl) ?_
        refine l_q rfl rfl rfl (q_assign rfl rfl) ?_
        refine l_nil ?_
        refine n_then ?_
        refine t_ret ?_
        refine n_ret_block ?_
        refine n_ret_then ?_
        refine n_ret_then ?_
        refine n_ret_block ?_
        refine n_ret_then ?_
        refine n_ret2 rfl rfl rfl (fun w' hw => ?_)
        -- leaf 0
        refine ⟨_, rfl, J3, F0, ⟨hJ.trans hJ3, rfl, _, _, rfl, ?_⟩, hw⟩
        rw [if_neg (fun h => by have := (okFields_iff.1 h).1 i (by omega); omega)]
        exact ⟨rfl, rfl⟩
      · skip
        try simp at hc9
        refine t_skip ?_
        refine n_block ?_
        refine n_then ?_
        refine t_region ?_
        refine l_q rfl rfl rfl (q_move rfl rfl) ?_
        refine l_q rfl rfl rfl (q_add64 rfl rfl rfl (by omega)) ?_
        refine l_q rfl rfl rfl (q_assign rfl rfl) ?_
        refine l_nil ?_
        refine n_roundE (i + 1) ?_ ?_ (sub_cons rfl sub_nil) (sub_cons rfl (sub_cons rfl (sub_cons rfl (sub_cons rfl sub_nil)))) (fun _ h => by try dsimp only; exact subC_st h)
        · refine ⟨by omega, fun j hj => ?_⟩; rcases Nat.lt_succ_iff_lt_or_eq.1 hj with h | rfl; exact hall j h; omega
        · omega
    · skip
      try simp at hc8
      refine t_exit ?_
      refine n_exit_then ?_
      refine n_exit_then ?_
      refine n_exit_block ?_
      refine n_then ?_
      refine t_seq ?_
      refine t_seq ?_
      refine t_region ?_
      refine l_q rfl rfl rfl (q_move rfl rfl) ?_
      refine l_q rfl rfl rfl ((by first | exact q_lenV rfl Try.underlying26 rfl | exact q_len rfl Try.underlying26 rfl (Sl.lenOf hv' (List.length_map _)) | exact q_len rfl Try.underlying26 rfl (Sl.lenOf hvo (List.length_map _)) | exact q_len rfl Try.underlying26 rfl (Sl.lenOf hrow (List.length_map _)))) ?_
      refine l_q rfl rfl rfl (q_gtr rfl rfl rfl) ?_
      refine l_nil ?_
      refine n_then ?_
      refine t_cond rfl (fun hc10 => ?_) (fun hc10 => ?_)
      · skip
        try simp at hc10
        refine t_seq ?_
        refine t_region ?_
        refine l_q rfl rfl rfl (q_assign rfl rfl) ?_
        refine l_q rfl rfl rfl (q_assign rfl rfl) ?_
        refine l_nil ?_
        refine n_then ?_
        refine t_ret ?_
        refine n_ret_then ?_
        refine n_ret2 rfl rfl rfl (fun w' hw => ?_)
        -- leaf 1
        refine ⟨_, rfl, J3, F0, ⟨hJ.trans hJ3, rfl, _, _, rfl, ?_⟩, hw⟩
        rw [if_neg (fun h => by have := (okFields_iff.1 h).2; omega)]
        exact ⟨rfl, rfl⟩
      · skip
        try simp at hc10
        refine t_skip ?_
        refine n_then ?_
        refine t_seq ?_
        refine t_region ?_
        refine l_q rfl rfl rfl (q_move rfl rfl) ?_
        refine l_q rfl rfl rfl (q_assign rfl rfl) ?_
        refine l_q rfl rfl rfl (q_assign rfl rfl) ?_
        refine l_nil ?_
        refine n_then ?_
        refine t_ret ?_
        refine n_ret2 rfl rfl rfl (fun w' hw => ?_)
        -- leaf 2
        refine ⟨_, rfl, J3, F0, ⟨hJ.trans hJ3, rfl, _, _, rfl, ?_⟩, hw⟩
        rw [if_pos (okFields_iff.2 ⟨fun j hj => hall j (by omega), by omega⟩)]
        exact ⟨rfl, us, hvo, hus3⟩
end Go.Tri
