/-
  A text of a proof (SL).
-/
import Derived.Test.YtigihljkacoopaaPNoth
namespace Go.Tri
open Go.Proofs Go.RowKit
theorem fields_short {o : List (List Ch)} (h : okFields o = true) : ∀ x ∈ o, x.length ≤ 1000000 := fun x hx => by
  obtain ⟨i, hi, rfl⟩ := List.getElem_of_mem hx
  have := (okFields_iff.1 h).1 i hi
  rw [nth_eq hi] at this
  omega
set_option maxRecDepth 10000 in
theorem splitNothing_pure (vl : Value) (l : List Pc) (ifs : List UInt8) (w : World) (hll : l.length ≤ 1048576) (hifs : ifs.length ≤ 1048576) (htl : tot l ≤ 1048576) (hv : Sl (look w) 3 vl (l.map pcC)) : Pure Try.prog 4 [vl, str ifs] w (.bool true) := by
  have hpl : ∀ p ∈ l, p.t.length ≤ 1048576 := fun p hp => Nat.le_trans (tot_mem hp) htl
  refine enter Try.func4 rfl Try.ntmps4 rfl (St.start w (look w) (Le.refl _)) ?_
  refine t_seq ?_
  refine t_region ?_
  refine l_q rfl rfl rfl (q_assign rfl rfl) ?_
  refine l_nil ?_
  refine n_then ?_
  refine t_seq ?_
  refine t_seq ?_
  refine t_region ?_
  refine l_q rfl rfl rfl (quiet_call rfl rfl rfl Try.func8 (by kernel_rfl) rfl (fun w _ => awake_pure w)) ?_
  refine l_q rfl rfl rfl (q_not rfl rfl) ?_
  refine l_nil ?_
  refine n_then ?_
  refine t_cond rfl (fun hc0 => ?_) (fun hc0 => ?_)
  · skip
    try simp at hc0
  · skip
    try simp at hc0
    refine t_skip ?_
    refine n_then ?_
    refine t_seq ?_
    refine t_region ?_
    refine l_q rfl rfl rfl (q_assign rfl rfl) ?_
    refine l_nil ?_
    refine n_then ?_
    refine t_seq ?_
    refine t_region ?_
    refine l_q rfl rfl rfl (q_assign rfl rfl) ?_
    refine l_nil ?_
    refine n_then ?_
    refine t_seq ?_
    refine t_region ?_
    refine l_q rfl rfl rfl (q_assign rfl rfl) ?_
    refine l_nil ?_
    refine n_then ?_
    refine t_seq ?_
    refine t_seq ?_
    refine t_region ?_
    refine l_q rfl rfl rfl (q_move rfl rfl) ?_
    refine l_q rfl rfl rfl ((by first | exact q_lenV rfl Try.underlying22 rfl | exact q_len rfl Try.underlying22 rfl (Sl.lenOf hv (List.length_map _)) | exact q_len rfl Try.underlying22 rfl (Sl.lenOf hfv (List.length_map _)) | exact q_len rfl Try.underlying22 rfl (Sl.lenOf hgv (List.length_map _)))) ?_
    refine l_q rfl rfl rfl (q_move rfl rfl) ?_
    refine l_nil ?_
    refine n_then ?_
    refine t_block ?_
    refine t_loopE (ι := Nat × Value) (fun zz => zz.1 ≤ l.length ∧ (allT (l.take zz.1)).length ≤ 4000) (fun zz => l.length - zz.1) (fun zz => [(17, .int .i64 (zz.1 : Int)), (5, str (allT (l.take zz.1))), (6, .bool ((l.take zz.1).any Pc.q)), (7, zz.2)]) [(0, _), (1, _), (14, _), (16, _)] (fun zz => look w) (fun zz => [tvec 25 3 pcC zz.2 ((l.take zz.1).map qP)]) (0, .slice none 0 0) ?_ (sub_cons rfl (sub_cons rfl (sub_cons rfl (sub_cons rfl sub_nil)))) (sub_cons rfl (sub_cons rfl (sub_cons rfl (sub_cons rfl sub_nil)))) (fun _ h => st_nilT 25 3 pcC h) ?_
    · exact ⟨Nat.zero_le _, Nat.zero_le _⟩
    rintro ⟨k, vq⟩ ⟨hk, hall⟩
    dsimp only at *
    refine t_seq ?_
    refine t_region ?_
    refine l_q rfl rfl rfl (q_lss rfl rfl rfl) ?_
    refine l_nil ?_
    refine n_then ?_
    refine t_seq ?_
    refine t_cond rfl (fun hc1 => ?_) (fun hc1 => ?_)
    · skip
      try simp at hc1
      have hpk : (nth l k pc0).t.length ≤ 1048576 := hpl _ (nth_mem (by omega))
      refine t_skip ?_
      refine n_then ?_
      refine t_seq ?_
      refine t_block ?_
      refine t_seq ?_
      refine t_region ?_
      refine l_q rfl rfl rfl (q_move rfl rfl) ?_
      refine l_q rfl rfl rfl (q_assign rfl rfl) ?_
      refine l_nil ?_
      refine n_then ?_
      refine t_seq ?_
      refine t_region ?_
      refine l_q rfl rfl rfl (q_move rfl rfl) ?_
      refine l_q rfl rfl rfl (q_move rfl rfl) ?_
      refine l_q rfl rfl rfl (q_move rfl rfl) ?_
      refine l_q rfl rfl rfl ((by first | exact q_indexAddrVN rfl Try.underlying22 ti25 rfl rfl (by omega) | exact q_indexAddrN rfl Try.underlying22 ti25 rfl rfl (Sl.shape hv (List.length_map _)) (by omega) | exact q_indexAddrN rfl Try.underlying22 ti25 rfl rfl (Sl.shape (hfv.mono hJ3) (List.length_map _)) (by omega) | exact q_indexAddrN rfl Try.underlying22 ti25 rfl rfl (Sl.shape hgv (List.length_map _)) (by omega) | exact q_indexAddrV rfl Try.underlying22 ti25 rfl rfl (by omega) | exact q_indexAddr rfl Try.underlying22 ti25 rfl rfl (Sl.shape hv (List.length_map _)) (by omega) | exact q_indexAddr rfl Try.underlying22 ti25 rfl rfl (Sl.shape (hfv.mono hJ3) (List.length_map _)) (by omega) | exact q_indexAddr rfl Try.underlying22 ti25 rfl rfl (Sl.shape hgv (List.length_map _)) (by omega))) ?_
      refine l_q rfl rfl rfl (q_fieldAddr rfl Try.underlying25 rfl rfl ti9 rfl rfl) ?_
      refine l_q rfl rfl rfl ((by first | exact q_load_row rfl Try.underlying9 rfl rfl (by rfl) | exact q_load rfl Try.underlying9 rfl rfl (rd_pc_t (i := k) hv (by omega)) | exact q_load rfl Try.underlying9 rfl rfl (rd_pc_q (i := k) hv (by omega)) | exact q_load rfl Try.underlying9 rfl rfl (rd_pc_s (i := k) hv (by omega)) | exact q_load rfl Try.underlying9 rfl rfl (rd_row1 (i := 0) (hfv.mono hJ3) (by omega)) | exact q_load rfl Try.underlying9 rfl rfl (rd_row1 (i := 0) hgv (by omega)))) ?_
      refine l_q rfl rfl rfl (q_cat rfl rfl rfl (by first | omega | (simp only [List.length_append, List.length_cons, List.length_nil]; omega))) ?_
      refine l_q rfl rfl rfl (q_assign rfl rfl) ?_
      refine l_nil ?_
      refine n_then ?_
      refine t_seq ?_
      refine t_qreg ?_
      refine s_q rfl rfl rfl (q_move rfl rfl) ?_
      refine s_q rfl rfl rfl (q_move rfl rfl) ?_
      refine s_short 5 1 28 34 33 false _ _ rfl rfl rfl rfl rfl rfl (fun h34 => by
          try simp at h34
          refine s_g rfl rfl rfl rfl rfl rfl (q_move rfl rfl) ?_
          refine s_g rfl rfl rfl rfl rfl rfl (q_move rfl rfl) ?_
          refine s_g rfl rfl rfl rfl rfl rfl ((by first | exact q_indexAddrVN rfl Try.underlying22 ti25 rfl rfl (by omega) | exact q_indexAddrN rfl Try.underlying22 ti25 rfl rfl (Sl.shape hv (List.length_map _)) (by omega) | exact q_indexAddrN rfl Try.underlying22 ti25 rfl rfl (Sl.shape (hfv.mono hJ3) (List.length_map _)) (by omega) | exact q_indexAddrN rfl Try.underlying22 ti25 rfl rfl (Sl.shape hgv (List.length_map _)) (by omega) | exact q_indexAddrV rfl Try.underlying22 ti25 rfl rfl (by omega) | exact q_indexAddr rfl Try.underlying22 ti25 rfl rfl (Sl.shape hv (List.length_map _)) (by omega) | exact q_indexAddr rfl Try.underlying22 ti25 rfl rfl (Sl.shape (hfv.mono hJ3) (List.length_map _)) (by omega) | exact q_indexAddr rfl Try.underlying22 ti25 rfl rfl (Sl.shape hgv (List.length_map _)) (by omega))) ?_
          refine s_g rfl rfl rfl rfl rfl rfl (q_fieldAddr rfl Try.underlying25 rfl rfl ti4 rfl rfl) ?_
          refine s_g rfl rfl rfl rfl rfl rfl ((by first | exact q_load_row rfl Try.underlying4 rfl rfl (by rfl) | exact q_load rfl Try.underlying4 rfl rfl (rd_pc_t (i := k) hv (by omega)) | exact q_load rfl Try.underlying4 rfl rfl (rd_pc_q (i := k) hv (by omega)) | exact q_load rfl Try.underlying4 rfl rfl (rd_pc_s (i := k) hv (by omega)) | exact q_load rfl Try.underlying4 rfl rfl (rd_row1 (i := 0) (hfv.mono hJ3) (by omega)) | exact q_load rfl Try.underlying4 rfl rfl (rd_row1 (i := 0) hgv (by omega)))) ?_
          exact s_val rfl
        ) rfl rfl rfl (.inr ⟨rfl, rfl⟩) ?_
      refine s_q rfl rfl rfl (q_assign rfl rfl) ?_
      refine s_done ?_
      refine n_then ?_
      refine t_seq ?_
      refine t_draw [12, 13] [] [] mo (by kernel_rfl) (fun _ _ _ _ _ h => h) ?_
      refine r_q0 0 (by kernel_rfl) rfl (Le.refl _) rfl rfl rfl (fun _ hI => q_move rfl rfl) ?_
      refine r_q1 1 (by kernel_rfl) rfl (Le.refl _) rfl rfl rfl (q_move rfl rfl) ?_
      refine r_q1 2 (by kernel_rfl) rfl (Le.refl _) rfl rfl rfl (q_move rfl rfl) ?_
      refine r_q1 3 (by kernel_rfl) rfl (Le.refl _) rfl rfl rfl ((by first | exact q_indexAddrVN rfl Try.underlying22 ti25 rfl rfl (by omega) | exact q_indexAddrN rfl Try.underlying22 ti25 rfl rfl (Sl.shape hv (List.length_map _)) (by omega) | exact q_indexAddrN rfl Try.underlying22 ti25 rfl rfl (Sl.shape (hfv.mono hJ3) (List.length_map _)) (by omega) | exact q_indexAddrN rfl Try.underlying22 ti25 rfl rfl (Sl.shape hgv (List.length_map _)) (by omega) | exact q_indexAddrV rfl Try.underlying22 ti25 rfl rfl (by omega) | exact q_indexAddr rfl Try.underlying22 ti25 rfl rfl (Sl.shape hv (List.length_map _)) (by omega) | exact q_indexAddr rfl Try.underlying22 ti25 rfl rfl (Sl.shape (hfv.mono hJ3) (List.length_map _)) (by omega) | exact q_indexAddr rfl Try.underlying22 ti25 rfl rfl (Sl.shape hgv (List.length_map _)) (by omega))) ?_
      refine r_q1 4 (by kernel_rfl) rfl (Le.refl _) rfl rfl rfl (q_fieldAddr rfl Try.underlying25 rfl rfl ti9 rfl rfl) ?_
      refine r_q1 5 (by kernel_rfl) rfl (Le.refl _) rfl rfl rfl ((by first | exact q_load_row rfl Try.underlying9 rfl rfl (by rfl) | exact q_load rfl Try.underlying9 rfl rfl (rd_pc_t (i := k) hv (by omega)) | exact q_load rfl Try.underlying9 rfl rfl (rd_pc_q (i := k) hv (by omega)) | exact q_load rfl Try.underlying9 rfl rfl (rd_pc_s (i := k) hv (by omega)) | exact q_load rfl Try.underlying9 rfl rfl (rd_row1 (i := 0) (hfv.mono hJ3) (by omega)) | exact q_load rfl Try.underlying9 rfl rfl (rd_row1 (i := 0) hgv (by omega)))) ?_
      refine r_q1 6 (by kernel_rfl) rfl (Le.refl _) rfl rfl rfl (q_move rfl rfl) ?_
      refine r_q1 7 (by kernel_rfl) rfl (Le.refl _) rfl rfl rfl (q_move rfl rfl) ?_
      refine r_q1 8 (by kernel_rfl) rfl (Le.refl _) rfl rfl rfl ((by first | exact q_indexAddrVN rfl Try.underlying22 ti25 rfl rfl (by omega) | exact q_indexAddrN rfl Try.underlying22 ti25 rfl rfl (Sl.shape hv (List.length_map _)) (by omega) | exact q_indexAddrN rfl Try.underlying22 ti25 rfl rfl (Sl.shape (hfv.mono hJ3) (List.length_map _)) (by omega) | exact q_indexAddrN rfl Try.underlying22 ti25 rfl rfl (Sl.shape hgv (List.length_map _)) (by omega) | exact q_indexAddrV rfl Try.underlying22 ti25 rfl rfl (by omega) | exact q_indexAddr rfl Try.underlying22 ti25 rfl rfl (Sl.shape hv (List.length_map _)) (by omega) | exact q_indexAddr rfl Try.underlying22 ti25 rfl rfl (Sl.shape (hfv.mono hJ3) (List.length_map _)) (by omega) | exact q_indexAddr rfl Try.underlying22 ti25 rfl rfl (Sl.shape hgv (List.length_map _)) (by omega))) ?_
      refine r_q1 9 (by kernel_rfl) rfl (Le.refl _) rfl rfl rfl (q_fieldAddr rfl Try.underlying25 rfl rfl ti4 rfl rfl) ?_
      refine r_q1 10 (by kernel_rfl) rfl (Le.refl _) rfl rfl rfl ((by first | exact q_load_row rfl Try.underlying4 rfl rfl (by rfl) | exact q_load rfl Try.underlying4 rfl rfl (rd_pc_t (i := k) hv (by omega)) | exact q_load rfl Try.underlying4 rfl rfl (rd_pc_q (i := k) hv (by omega)) | exact q_load rfl Try.underlying4 rfl rfl (rd_pc_s (i := k) hv (by omega)) | exact q_load rfl Try.underlying4 rfl rfl (rd_row1 (i := 0) (hfv.mono hJ3) (by omega)) | exact q_load rfl Try.underlying4 rfl rfl (rd_row1 (i := 0) hgv (by omega)))) ?_
      refine r_q1 11 (by kernel_rfl) rfl (Le.refl _) rfl rfl rfl (q_build (pl := [(_, _), (_, _), (_, _)]) (cs := (pcC (qP (nth l k pc0))).toArray) rfl Try.underlying25 ti25 ⟨rfl, ⟨_, _, ti9⟩, rfl, ⟨_, _, ti4⟩, rfl, ⟨_, _, ti4⟩, trivial⟩ rfl rfl) ?_
      refine r_e 12 (by kernel_rfl) (by kernel_rfl) rfl (Le.refl _) rfl rfl rfl (e_buildSlice1 rfl Try.underlying22 ti25 rfl rfl rfl (by first | exact One.cells (by assumption) | rfl) rfl) ?_
      rintro _ _ _ ⟨b47, rfl, rfl, rfl⟩
      refine ⟨Le.refl _, .inr SubC.sub, ?_⟩
      refine r_e 13 (by kernel_rfl) (by kernel_rfl) rfl (Le.refl _) rfl rfl rfl (e_appendT (f := pcC) (c := qP (nth l k pc0)) rfl Try.underlying22 ti25 rfl rfl rfl rfl rfl rfl rfl (by first | exact byC_ones _ | exact chC_ones _ | exact pcC_ones _ | simp [Value.oneCell', str, u8] | exact ones1 (by assumption)) (by simp only [maxLen, List.length_map, List.length_take]; omega) (by simp only [List.length_map, List.length_take]; omega)) ?_
      rintro v48 _ _ ⟨rfl, rfl⟩
      refine ⟨Le.refl _, .inr SubC.sub, ?_⟩
      refine r_q0 14 (by kernel_rfl) rfl (Le.refl _) rfl rfl rfl (fun _ hI => q_assign rfl rfl) ?_
      refine r_end (by kernel_rfl) ?_
      refine n_then ?_
      refine t_seq ?_
      refine t_region ?_
      refine l_q rfl rfl rfl (q_move rfl rfl) ?_
      refine l_q rfl rfl rfl (q_len_str rfl Try.underlying9 rfl) ?_
      refine l_q rfl rfl rfl (q_gtr rfl rfl rfl) ?_
      refine l_nil ?_
      refine n_then ?_
      refine t_cond rfl (fun hc2 => ?_) (fun hc2 => ?_)
      · skip
        try simp at hc2
        refine t_seq ?_
        refine t_region ?_
        refine l_q rfl rfl rfl (q_assign rfl rfl) ?_
        refine l_nil ?_
        refine n_then ?_
        refine t_ret ?_
        refine n_ret_block ?_
        refine n_ret_then ?_
        refine n_ret_then ?_
        refine n_ret_block ?_
        refine n_ret_then ?_
        refine n_ret1 rfl rfl (fun w' hw => ?_)
        -- leaf 0
        exact ⟨rfl, hw.below⟩
      · skip
        try simp at hc2
        refine t_skip ?_
        refine n_block ?_
        refine n_then ?_
        refine t_region ?_
        refine l_q rfl rfl rfl (q_add64 rfl rfl rfl (by omega)) ?_
        refine l_q rfl rfl rfl (q_move rfl rfl) ?_
        refine l_nil ?_
        refine n_roundE ((k + 1, v48)) ?_ ?_ (sub_cons rfl (sub_cons' rfl (by rw [allT_take (by omega)]) (sub_cons' rfl (by rw [any_take (by omega)]; rfl) (sub_cons rfl sub_nil)))) (sub_cons rfl (sub_cons rfl (sub_cons rfl (sub_cons rfl sub_nil)))) (fun _ h => by dsimp only; rw [map_take qP pc0 (show k < l.length by omega)]; exact subC_st h)
        · exact ⟨(show k + 1 ≤ _ by omega), (by show (allT (l.take (k + 1))).length ≤ 4000; rw [allT_take (by omega), List.length_append]; omega)⟩
        · show l.length - (k + 1) < l.length - k; omega
    · skip
      try simp at hc1
      rw [List.take_of_length_le (by omega)] at *
      refine t_exit ?_
      refine n_exit_then ?_
      refine n_exit_then ?_
      refine n_exit_block ?_
      refine n_then ?_
      refine t_seq ?_
      refine t_freezeT (f := pcC) (l := (l.map qP)) vq (fun _ => rfl) (fun J1 hJ1 hvq => ?_)
      obtain ⟨ok1, ok2, ne, n1, n2, n3⟩ := nothing_facts l ifs hall
      have htot : tot l ≤ 4000 := by rw [← allT_len]; exact hall
      refine t_region ?_
      refine l_q rfl rfl rfl (q_move rfl rfl) ?_
      refine l_e rfl rfl rfl (eff_call rfl rfl rfl Try.func9 (by kernel_rfl) rfl (fun w hw => fields_calls _ l [] _ _ _ w (by omega) (fun p hp => Nat.le_trans (hpl p hp) (by decide)) (by omega) (hv.mono hJ1) hw)) ?_
      rintro _ J2 _ ⟨hJ2, rfl, fv, err, rfl, hok⟩
      rw [if_pos ok1] at hok
      obtain ⟨rfl, fs, hfv, hfs⟩ := hok
      have hfi : ∀ x ∈ fieldsAll l [], x.length ≤ 1000000 := fields_short ok1
      have hfl := hfs.1
      refine l_q rfl rfl rfl (q_move rfl rfl) ?_
      refine l_q rfl rfl rfl (q_extract rfl rfl rfl) ?_
      refine l_q rfl rfl rfl (q_extract rfl rfl rfl) ?_
      refine l_q rfl rfl rfl (q_assign rfl rfl) ?_
      refine l_q rfl rfl rfl (q_assign rfl rfl) ?_
      refine l_nil ?_
      refine n_then ?_
      refine t_seq ?_
      refine t_region ?_
      refine l_q rfl rfl rfl (q_move rfl rfl) ?_
      refine l_q rfl rfl rfl (q_move rfl rfl) ?_
      refine l_e rfl rfl rfl (eff_call rfl rfl rfl Try.func9 (by kernel_rfl) rfl (fun w hw => fields_calls _ (l.map qP) ifs _ _ _ w (by rw [List.length_map]; omega) (fun p hp => by obtain ⟨q, hq, rfl⟩ := List.mem_map.1 hp; exact Nat.le_trans (hpl q hq) (by decide)) (by rw [← allT_len, allT_qP, allT_len]; omega) (hvq.mono hJ2) hw)) ?_
      rintro _ J3 _ ⟨hJ3, rfl, gv, err2, rfl, hok2⟩
      rw [if_pos ok2] at hok2
      obtain ⟨rfl, gs, hgv, hgs⟩ := hok2
      have hgi : ∀ x ∈ fieldsAll (l.map qP) ifs, x.length ≤ 1000000 := fields_short ok2
      have hgl := hgs.1
      have hfn := (okFields_iff.1 ok1).2
      have hgn := (okFields_iff.1 ok2).2
      refine l_q rfl rfl rfl (q_move rfl rfl) ?_
      refine l_q rfl rfl rfl (q_extract rfl rfl rfl) ?_
      refine l_q rfl rfl rfl (q_extract rfl rfl rfl) ?_
      refine l_q rfl rfl rfl (q_assign rfl rfl) ?_
      refine l_q rfl rfl rfl (q_assign rfl rfl) ?_
      refine l_nil ?_
      refine n_then ?_
      refine t_seq ?_
      refine t_seq ?_
      refine t_qreg ?_
      refine s_q rfl rfl rfl (q_move rfl rfl) ?_
      refine s_q rfl rfl rfl (q_neq rfl rfl rfl) ?_
      refine s_q rfl rfl rfl (q_move rfl rfl) ?_
      refine s_short 2 2 66 69 68 false _ _ rfl rfl rfl rfl rfl rfl (fun h69 => by
          try simp at h69
          refine s_g rfl rfl rfl rfl rfl rfl (q_move rfl rfl) ?_
          refine s_g rfl rfl rfl rfl rfl rfl (q_neq rfl rfl rfl) ?_
          exact s_val rfl
        ) rfl rfl rfl (.inr ⟨rfl, rfl⟩) ?_
      refine s_done ?_
      refine n_then ?_
      refine t_cond rfl (fun hc3 => ?_) (fun hc3 => ?_)
      · skip
        try simp at hc3
      · skip
        try simp at hc3
        refine t_skip ?_
        refine n_then ?_
        refine t_seq ?_
        refine t_seq ?_
        refine t_region ?_
        refine l_q rfl rfl rfl (q_move rfl rfl) ?_
        refine l_q rfl rfl rfl ((by first | exact q_lenV rfl Try.underlying22 rfl | exact q_len rfl Try.underlying22 rfl (Sl.lenOf hv (List.length_map _)) | exact q_len rfl Try.underlying22 rfl (Sl.lenOf hfv (List.length_map _)) | exact q_len rfl Try.underlying22 rfl (Sl.lenOf hgv (List.length_map _)))) ?_
        refine l_q rfl rfl rfl (q_eql rfl rfl rfl) ?_
        refine l_nil ?_
        refine n_then ?_
        refine t_cond rfl (fun hc4 => ?_) (fun hc4 => ?_)
        · skip
          try simp at hc4
          refine t_seq ?_
          refine t_region ?_
          refine l_q rfl rfl rfl (q_move rfl rfl) ?_
          refine l_q rfl rfl rfl ((by first | exact q_lenV rfl Try.underlying26 rfl | exact q_len rfl Try.underlying26 rfl (Sl.lenOf hv (List.length_map _)) | exact q_len rfl Try.underlying26 rfl (Sl.lenOf hfv (List.length_map _)) | exact q_len rfl Try.underlying26 rfl (Sl.lenOf hgv (List.length_map _)))) ?_
          refine l_q rfl rfl rfl (q_move rfl rfl) ?_
          refine l_q rfl rfl rfl ((by first | exact q_lenV rfl Try.underlying26 rfl | exact q_len rfl Try.underlying26 rfl (Sl.lenOf hv (List.length_map _)) | exact q_len rfl Try.underlying26 rfl (Sl.lenOf hfv (List.length_map _)) | exact q_len rfl Try.underlying26 rfl (Sl.lenOf hgv (List.length_map _)))) ?_
          refine l_q rfl rfl rfl (q_add64 rfl rfl rfl (by omega)) ?_
          refine l_q rfl rfl rfl (q_eql rfl rfl rfl) ?_
          refine l_q rfl rfl rfl (q_assign rfl rfl) ?_
          refine l_nil ?_
          refine n_then ?_
          refine t_ret ?_
          refine n_ret_then ?_
          refine n_ret1 rfl rfl (fun w' hw => ?_)
          -- leaf 1
          have hl0 : l = [] := List.eq_nil_of_length_eq_zero (by simpa using hc4)
          rw [(ne hl0).1] at hfl
          rw [(ne hl0).2] at hgl
          simp only [List.length_nil] at hfl hgl
          refine ⟨?_, (hw.less ((hJ1.trans hJ2).trans hJ3)).below⟩
          simp [hfl, hgl]
        · skip
          try simp at hc4
          have hl1 : l ≠ [] := by intro h; subst h; simp at hc4
          obtain ⟨cg, hcg, htg⟩ := n1 hl1
          refine t_skip ?_
          refine n_then ?_
          refine t_seq ?_
          refine t_seq ?_
          refine t_qreg ?_
          refine s_q rfl rfl rfl (q_move rfl rfl) ?_
          refine s_q rfl rfl rfl ((by first | exact q_lenV rfl Try.underlying26 rfl | exact q_len rfl Try.underlying26 rfl (Sl.lenOf hv (List.length_map _)) | exact q_len rfl Try.underlying26 rfl (Sl.lenOf hfv (List.length_map _)) | exact q_len rfl Try.underlying26 rfl (Sl.lenOf hgv (List.length_map _)))) ?_
          refine s_q rfl rfl rfl (q_neq rfl rfl rfl) ?_
          refine s_q rfl rfl rfl (q_move rfl rfl) ?_
          refine s_short 6 3 82 89 88 false _ _ rfl rfl rfl rfl rfl rfl (fun h89 => by
              try simp at h89
              refine s_g rfl rfl rfl rfl rfl rfl (q_move rfl rfl) ?_
              refine s_g rfl rfl rfl rfl rfl rfl ((by first | exact q_indexAddrVN rfl Try.underlying26 ti33 rfl rfl (by omega) | exact q_indexAddrN rfl Try.underlying26 ti33 rfl rfl (Sl.shape hv (List.length_map _)) (by omega) | exact q_indexAddrN rfl Try.underlying26 ti33 rfl rfl (Sl.shape (hfv.mono hJ3) (List.length_map _)) (by omega) | exact q_indexAddrN rfl Try.underlying26 ti33 rfl rfl (Sl.shape hgv (List.length_map _)) (by omega) | exact q_indexAddrV rfl Try.underlying26 ti33 rfl rfl (by omega) | exact q_indexAddr rfl Try.underlying26 ti33 rfl rfl (Sl.shape hv (List.length_map _)) (by omega) | exact q_indexAddr rfl Try.underlying26 ti33 rfl rfl (Sl.shape (hfv.mono hJ3) (List.length_map _)) (by omega) | exact q_indexAddr rfl Try.underlying26 ti33 rfl rfl (Sl.shape hgv (List.length_map _)) (by omega))) ?_
              refine s_g rfl rfl rfl rfl rfl rfl ((by first | exact q_load_row rfl Try.underlying33 rfl rfl (by rfl) | exact q_load rfl Try.underlying33 rfl rfl (rd_pc_t (i := k) hv (by omega)) | exact q_load rfl Try.underlying33 rfl rfl (rd_pc_q (i := k) hv (by omega)) | exact q_load rfl Try.underlying33 rfl rfl (rd_pc_s (i := k) hv (by omega)) | exact q_load rfl Try.underlying33 rfl rfl (rd_row1 (i := 0) (hfv.mono hJ3) (by omega)) | exact q_load rfl Try.underlying33 rfl rfl (rd_row1 (i := 0) hgv (by omega)))) ?_
              refine s_g rfl rfl rfl rfl rfl rfl (quiet_call rfl rfl rfl Try.func11 (by kernel_rfl) rfl (fun w hw => text_pure _ (nth (fieldsAll (l.map qP) ifs) 0 []) w (hgi _ (nth_mem (by omega))) ((hgs.at_ (i := 0) (by omega)).mono hw.le))) ?_
              refine s_g rfl rfl rfl rfl rfl rfl (q_move rfl rfl) ?_
              refine s_g rfl rfl rfl rfl rfl rfl (q_neq_str rfl rfl rfl) ?_
              exact s_val rfl
            ) rfl rfl rfl (.inr ⟨rfl, rfl⟩) ?_
          refine s_done ?_
          refine n_then ?_
          refine t_cond rfl (fun hc5 => ?_) (fun hc5 => ?_)
          · skip
            exfalso
            simp [hgl, hcg, htg, nth] at hc5
          · skip
            refine t_skip ?_
            refine n_then ?_
            refine t_seq ?_
            refine t_seq ?_
            refine t_qreg ?_
            refine s_q rfl rfl rfl (q_move rfl rfl) ?_
            refine s_q rfl rfl rfl (q_eql_str rfl rfl rfl) ?_
            refine s_q rfl rfl rfl (q_move rfl rfl) ?_
            refine s_short 2 2 92 95 94 true _ _ rfl rfl rfl rfl rfl rfl (fun h95 => by
                try simp at h95
                refine s_g rfl rfl rfl rfl rfl rfl (q_move rfl rfl) ?_
                refine s_g rfl rfl rfl rfl rfl rfl (q_not rfl rfl) ?_
                exact s_val rfl
              ) rfl rfl rfl (.inl ⟨rfl, rfl⟩) ?_
            refine s_done ?_
            refine n_then ?_
            refine t_cond rfl (fun hc6 => ?_) (fun hc6 => ?_)
            · skip
              refine t_seq ?_
              refine t_region ?_
              refine l_q rfl rfl rfl (q_move rfl rfl) ?_
              refine l_q rfl rfl rfl ((by first | exact q_lenV rfl Try.underlying26 rfl | exact q_len rfl Try.underlying26 rfl (Sl.lenOf hv (List.length_map _)) | exact q_len rfl Try.underlying26 rfl (Sl.lenOf hfv (List.length_map _)) | exact q_len rfl Try.underlying26 rfl (Sl.lenOf hgv (List.length_map _)))) ?_
              refine l_q rfl rfl rfl (q_eql rfl rfl rfl) ?_
              refine l_q rfl rfl rfl (q_assign rfl rfl) ?_
              refine l_nil ?_
              refine n_then ?_
              refine t_ret ?_
              refine n_ret_then ?_
              refine n_ret1 rfl rfl (fun w' hw => ?_)
              -- leaf 2
              have h6 : (decide (allT l = []) && !(l.any Pc.q)) = true := hc6
              simp only [Bool.and_eq_true, decide_eq_true_eq, Bool.not_eq_true'] at h6
              rw [n2 h6] at hfl
              simp only [List.length_nil] at hfl
              refine ⟨?_, (hw.less ((hJ1.trans hJ2).trans hJ3)).below⟩
              simp [hfl]
            · skip
              refine t_skip ?_
              refine n_then ?_
              refine t_seq ?_
              refine t_qreg ?_
              refine s_q rfl rfl rfl (q_move rfl rfl) ?_
              refine s_q rfl rfl rfl ((by first | exact q_lenV rfl Try.underlying26 rfl | exact q_len rfl Try.underlying26 rfl (Sl.lenOf hv (List.length_map _)) | exact q_len rfl Try.underlying26 rfl (Sl.lenOf hfv (List.length_map _)) | exact q_len rfl Try.underlying26 rfl (Sl.lenOf hgv (List.length_map _)))) ?_
              refine s_q rfl rfl rfl (q_eql rfl rfl rfl) ?_
              refine s_q rfl rfl rfl (q_move rfl rfl) ?_
              refine s_short 6 3 102 109 108 true _ _ rfl rfl rfl rfl rfl rfl (fun h109 => by
                  try simp at h109
                  refine s_g rfl rfl rfl rfl rfl rfl (q_move rfl rfl) ?_
                  refine s_g rfl rfl rfl rfl rfl rfl ((by first | exact q_indexAddrVN rfl Try.underlying26 ti33 rfl rfl (by omega) | exact q_indexAddrN rfl Try.underlying26 ti33 rfl rfl (Sl.shape hv (List.length_map _)) (by omega) | exact q_indexAddrN rfl Try.underlying26 ti33 rfl rfl (Sl.shape (hfv.mono hJ3) (List.length_map _)) (by omega) | exact q_indexAddrN rfl Try.underlying26 ti33 rfl rfl (Sl.shape hgv (List.length_map _)) (by omega) | exact q_indexAddrV rfl Try.underlying26 ti33 rfl rfl (by omega) | exact q_indexAddr rfl Try.underlying26 ti33 rfl rfl (Sl.shape hv (List.length_map _)) (by omega) | exact q_indexAddr rfl Try.underlying26 ti33 rfl rfl (Sl.shape (hfv.mono hJ3) (List.length_map _)) (by omega) | exact q_indexAddr rfl Try.underlying26 ti33 rfl rfl (Sl.shape hgv (List.length_map _)) (by omega))) ?_
                  refine s_g rfl rfl rfl rfl rfl rfl ((by first | exact q_load_row rfl Try.underlying33 rfl rfl (by rfl) | exact q_load rfl Try.underlying33 rfl rfl (rd_pc_t (i := k) hv (by omega)) | exact q_load rfl Try.underlying33 rfl rfl (rd_pc_q (i := k) hv (by omega)) | exact q_load rfl Try.underlying33 rfl rfl (rd_pc_s (i := k) hv (by omega)) | exact q_load rfl Try.underlying33 rfl rfl (rd_row1 (i := 0) (hfv.mono hJ3) (by omega)) | exact q_load rfl Try.underlying33 rfl rfl (rd_row1 (i := 0) hgv (by omega)))) ?_
                  refine s_g rfl rfl rfl rfl rfl rfl (quiet_call rfl rfl rfl Try.func11 (by kernel_rfl) rfl (fun w hw => text_pure _ (nth (fieldsAll l []) 0 []) w (hfi _ (nth_mem (by omega))) (((hfs.mono hJ3).at_ (i := 0) (by omega)).mono hw.le))) ?_
                  refine s_g rfl rfl rfl rfl rfl rfl (q_move rfl rfl) ?_
                  refine s_g rfl rfl rfl rfl rfl rfl (q_eql_str rfl rfl rfl) ?_
                  exact s_val rfl
                ) rfl rfl rfl (.inl ⟨rfl, rfl⟩) ?_
              refine s_q rfl rfl rfl (q_assign rfl rfl) ?_
              refine s_done ?_
              refine n_then ?_
              refine t_ret ?_
              refine n_ret1 rfl rfl (fun w' hw => ?_)
              -- leaf 3
              have h6 : (decide (allT l = []) && !(l.any Pc.q)) = false := hc6
              obtain ⟨cf, hcf, htf⟩ := n3 (fun h => by rw [h.1, h.2] at h6; simp at h6)
              refine ⟨?_, (hw.less ((hJ1.trans hJ2).trans hJ3)).below⟩
              simp [hfl, hcf, htf, nth]
end Go.Tri
