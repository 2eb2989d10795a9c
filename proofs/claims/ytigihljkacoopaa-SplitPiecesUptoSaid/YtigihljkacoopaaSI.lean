/-
  A text of a proof (SI).
-/
import Derived.Test.YtigihljkacoopaaSH
namespace Go.Tri
open Go.Proofs Go.RowKit
theorem tot_cons (p : Pc) (l : List Pc) : tot (p :: l) = p.t.length + tot l := rfl
theorem tot_mem {l : List Pc} {p : Pc} (h : p ∈ l) : p.t.length ≤ tot l := by
  induction l with
  | nil => cases h
  | cons q l ih =>
    rw [tot_cons]
    rcases List.mem_cons.1 h with rfl | h
    · omega
    · have := ih h; omega
theorem tot_app (a b : List Pc) : tot (a ++ b) = tot a + tot b := by simp [tot]
theorem tot_take {l : List Pc} {k : Nat} (h : k < l.length) : tot (l.take (k + 1)) = tot (l.take k) + (nth l k pc0).t.length := by
  rw [take_nth pc0 h, tot_app]; rfl
theorem tot_take_le (l : List Pc) (k : Nat) : tot (l.take k) ≤ tot l := by
  have := tot_app (l.take k) (l.drop k)
  rw [List.take_append_drop] at this
  omega
theorem rl_nil {I : Look} : RL I (.slice none 0 0) [] := ⟨[], sl_nil (fun _ h => by cases h), rfl, fun _ _ _ h => by cases h⟩
theorem rd_pc_t {w0 : World} {I : Look} {H : List HA} {v : Value} {l : List Pc} (h : Sl I 3 v (l.map pcC)) {i : Nat} (hi : i < l.length) : Rd w0 I H (adr v).block ((adr v).off + i * 3 + 0) (str (nth l i pc0).t) := h.rd (map_getD l pcC pc0 hi) rfl
theorem fields_both {l : List Pc} {ifs : List UInt8} {I J : Look} {fv gv : Value} {e1 e2 : Int}
    (h1 : if okFields (fieldsAll l ifs) then e1 = 0 ∧ RL I fv (fieldsAll l ifs) else e1 = 66 ∧ fv = .slice none 0 0) (hle : Le I J)
    (h2 : if okFields (fieldsAll l ifs) then e2 = 0 ∧ RL J gv (fieldsAll l ifs) else e2 = 66 ∧ gv = .slice none 0 0) :
    ∃ xs, RL J fv xs ∧ RL J gv xs ∧ xs.length ≤ 1000000 ∧ (∀ x ∈ xs, x.length ≤ 1000000) ∧ e1 = e2 := by
  by_cases h : okFields (fieldsAll l ifs) = true
  · rw [if_pos h] at h1 h2
    have hk := okFields_iff.1 h
    refine ⟨_, h1.2.mono hle, h2.2, by omega, fun x hx => ?_, by rw [h1.1, h2.1]⟩
    obtain ⟨i, hi, rfl⟩ := List.getElem_of_mem hx
    have := hk.1 i hi
    rw [nth_eq hi] at this
    omega
  · rw [if_neg h] at h1 h2
    obtain ⟨rfl, rfl⟩ := h1
    obtain ⟨rfl, rfl⟩ := h2
    exact ⟨[], rl_nil, rl_nil, by simp, (fun x hx => absurd hx List.not_mem_nil), rfl⟩
set_option maxRecDepth 10000 in
theorem awake_pure (w : World) : Pure Try.prog 8 [] w (.bool true) := by
  refine enter Try.func8 rfl Try.ntmps8 rfl (St.start w (look w) (Le.refl _)) ?_
  refine t_seq ?_
  refine t_region ?_
  refine l_q rfl rfl rfl (q_assign rfl rfl) ?_
  refine l_nil ?_
  refine n_then ?_
  refine t_seq ?_
  refine t_region ?_
  refine l_q rfl rfl rfl (q_build (pl := [(_, _), (_, _), (_, _)]) (cs := (pcC ⟨[97, 32, 98], false, true⟩).toArray) rfl Try.underlying25 ti25 ⟨rfl, ⟨_, _, ti9⟩, rfl, ⟨_, _, ti4⟩, rfl, ⟨_, _, ti4⟩, trivial⟩ rfl rfl) ?_
  refine l_e rfl rfl rfl (e_buildSlice1 rfl Try.underlying22 ti25 rfl rfl rfl (by first | exact One.cells (by assumption) | rfl) rfl) ?_
  rintro _ _ _ ⟨b5, rfl, rfl, rfl⟩
  refine l_heap (H' := [tvec 25 3 pcC (.slice (some ⟨b5, 0, none⟩) 1 1) [⟨[97, 32, 98], false, true⟩]]) ?_ (fun _ h => st_rowVec h rfl (by decide))
  refine l_freezeT (f := pcC) (l := [⟨[97, 32, 98], false, true⟩]) (.slice (some ⟨b5, 0, none⟩) 1 1) (fun _ => rfl) (fun J hJ hsl => ?_)
  refine l_e rfl rfl rfl (eff_call rfl rfl rfl Try.func9 (by kernel_rfl) rfl (fun w hw => fields_calls _ [⟨[97, 32, 98], false, true⟩] [32] _ _ _ w (by decide) (by decide) (by decide) hsl hw)) ?_
  rintro _ J2 _ ⟨hJ2, rfl, fv, err, rfl, hok⟩
  rw [if_pos (by decide +kernel)] at hok
  obtain ⟨rfl, us, hfv, hus⟩ := hok
  rw [show fieldsAll [⟨[97, 32, 98], false, true⟩] [32] = [[⟨97, false⟩], [⟨98, false⟩]] by decide +kernel] at hus
  have hul : us.length = 2 := hus.1
  refine l_q rfl rfl rfl (q_move rfl rfl) ?_
  refine l_q rfl rfl rfl (q_extract rfl rfl rfl) ?_
  refine l_q rfl rfl rfl (q_extract rfl rfl rfl) ?_
  refine l_q rfl rfl rfl (q_assign rfl rfl) ?_
  refine l_q rfl rfl rfl (q_assign rfl rfl) ?_
  refine l_nil ?_
  refine n_then ?_
  refine t_seq ?_
  refine t_qreg ?_
  refine s_q rfl rfl rfl (q_move rfl rfl) ?_
  refine s_q rfl rfl rfl (q_eql rfl rfl rfl) ?_
  refine s_q rfl rfl rfl (q_move rfl rfl) ?_
  refine s_short 3 2 11 15 14 true _ _ rfl rfl rfl rfl rfl rfl (fun h15 => by
      try simp at h15
      refine s_g rfl rfl rfl rfl rfl rfl (q_move rfl rfl) ?_
      refine s_g rfl rfl rfl rfl rfl rfl ((by first | exact q_lenV rfl Try.underlying26 rfl | exact q_len rfl Try.underlying26 rfl (Sl.lenOf hfv (List.length_map _)))) ?_
      refine s_g rfl rfl rfl rfl rfl rfl (q_eql rfl rfl rfl) ?_
      exact s_val rfl
    ) rfl rfl rfl (.inl ⟨rfl, rfl⟩) ?_
  refine s_q rfl rfl rfl (q_move rfl rfl) ?_
  refine s_short 5 7 16 22 21 true _ _ rfl rfl rfl rfl rfl rfl (fun h22 => by
      try simp at h22
      refine s_g rfl rfl rfl rfl rfl rfl (q_move rfl rfl) ?_
      refine s_g rfl rfl rfl rfl rfl rfl ((by first | exact q_indexAddrVN rfl Try.underlying26 ti33 rfl rfl (by omega) | exact q_indexAddrN rfl Try.underlying26 ti33 rfl rfl (Sl.shape hfv (List.length_map _)) (by omega) | exact q_indexAddrV rfl Try.underlying26 ti33 rfl rfl (by omega) | exact q_indexAddr rfl Try.underlying26 ti33 rfl rfl (Sl.shape hfv (List.length_map _)) (by omega))) ?_
      refine s_g rfl rfl rfl rfl rfl rfl ((by first | exact q_load_row rfl Try.underlying33 rfl rfl (by rfl) | exact q_load rfl Try.underlying33 rfl rfl (rd_row1 (i := 1) hfv (by omega)))) ?_
      refine s_g rfl rfl rfl rfl rfl rfl (quiet_call rfl rfl rfl Try.func11 (by kernel_rfl) rfl (fun w hw => text_pure _ [⟨98, false⟩] w (by decide) ((hus.at_ (i := 1) (by decide)).mono hw.le))) ?_
      refine s_g rfl rfl rfl rfl rfl rfl (q_eql_str rfl rfl rfl) ?_
      exact s_val rfl
    ) rfl rfl rfl (.inl ⟨rfl, rfl⟩) ?_
  refine s_q rfl rfl rfl (q_move rfl rfl) ?_
  refine s_q rfl rfl rfl (q_pick_b rfl rfl) ?_
  refine s_q rfl rfl rfl (q_move rfl rfl) ?_
  refine s_q rfl rfl rfl (q_pick_b rfl rfl) ?_
  refine s_q rfl rfl rfl (q_assign rfl rfl) ?_
  refine s_done ?_
  refine n_then ?_
  refine t_ret ?_
  refine n_ret1 rfl rfl (fun w' hw => ?_)
  -- leaf 0
  refine ⟨?_, (hw.less (hJ.trans hJ2)).below⟩
  simp [hul, chText]

set_option maxRecDepth 10000 in
theorem splitFields_pure (vl : Value) (l : List Pc) (ifs : List UInt8) (w : World) (hll : l.length ≤ 1048576) (hifs : ifs.length ≤ 1048576) (htl : tot l ≤ 1048576) (hv : Sl (look w) 3 vl (l.map pcC)) : Pure Try.prog 3 [vl, str ifs] w (.bool true) := by
  have hpl : ∀ p ∈ l, p.t.length ≤ 1048576 := fun p hp => Nat.le_trans (tot_mem hp) htl
  refine enter Try.func3 rfl Try.ntmps3 rfl (St.start w (look w) (Le.refl _)) ?_
  refine t_seq ?_
  refine t_region ?_
  refine l_q rfl rfl rfl (q_assign rfl rfl) ?_
  refine l_nil ?_
  refine n_then ?_
  refine t_seq ?_
  refine t_seq ?_
  refine t_region ?_
  refine l_q rfl rfl rfl (quiet_call rfl rfl rfl Try.func8 (by kernel_rfl) rfl (fun w _ => awake_pure w)) ?_
  refine l_q rfl rfl rfl (q_not rfl rfl) ?_
  refine l_nil ?_
  refine n_then ?_
  refine t_cond rfl (fun hc0 => ?_) (fun hc0 => ?_)
  · skip
    try simp at hc0
  · skip
    try simp at hc0
    refine t_skip ?_
    refine n_then ?_
    refine t_seq ?_
    refine t_region ?_
    refine l_q rfl rfl rfl (q_move rfl rfl) ?_
    refine l_q rfl rfl rfl (q_len_str rfl Try.underlying9 rfl) ?_
    refine l_q rfl rfl rfl (q_assign rfl rfl) ?_
    refine l_nil ?_
    refine n_then ?_
    refine t_seq ?_
    refine t_seq ?_
    refine t_region ?_
    refine l_q rfl rfl rfl (q_move rfl rfl) ?_
    refine l_q rfl rfl rfl ((by first | exact q_lenV rfl Try.underlying22 rfl | exact q_len rfl Try.underlying22 rfl (Sl.lenOf hv (List.length_map _)) | exact q_len rfl Try.underlying22 rfl (Sl.lenOf hfu (List.length_map _)))) ?_
    refine l_q rfl rfl rfl (q_move rfl rfl) ?_
    refine l_nil ?_
    refine n_then ?_
    refine t_block ?_
    refine t_loopE (ι := Nat) (fun zz => zz ≤ l.length) (fun zz => l.length - zz) (fun zz => [(18, .int .i64 (zz : Int)), (5, .int .i64 ((ifs.length : Int) + (tot (l.take zz) : Int)))]) [(0, _), (1, _), (4, _), (13, _), (17, _)] (fun zz => look w) (fun zz => []) 0 ?_ (sub_cons rfl (sub_cons' rfl (by rw [List.take_zero]; show Value.int _ _ = Value.int _ (_ + 0); rw [Int.add_zero]) (sub_nil))) (sub_cons rfl (sub_cons rfl (sub_cons rfl (sub_cons rfl (sub_cons rfl sub_nil))))) (fun _ h => subC_st h) ?_
    · exact Nat.zero_le _
    rintro k hk
    dsimp only at *
    have htk : tot (l.take k) ≤ 1048576 := Nat.le_trans (tot_take_le l k) htl
    refine t_seq ?_
    refine t_region ?_
    refine l_q rfl rfl rfl (q_lss rfl rfl rfl) ?_
    refine l_nil ?_
    refine n_then ?_
    refine t_seq ?_
    refine t_cond rfl (fun hc1 => ?_) (fun hc1 => ?_)
    · skip
      try simp at hc1
      have hpk : (nth l k pc0).t.length ≤ 1048576 := hpl _ (nth_mem (by omega))
      refine t_skip ?_
      refine n_then ?_
      refine t_seq ?_
      refine t_block ?_
      refine t_seq ?_
      refine t_region ?_
      refine l_q rfl rfl rfl (q_move rfl rfl) ?_
      refine l_q rfl rfl rfl (q_assign rfl rfl) ?_
      refine l_nil ?_
      refine n_then ?_
      refine t_region ?_
      refine l_q rfl rfl rfl (q_move rfl rfl) ?_
      refine l_q rfl rfl rfl (q_move rfl rfl) ?_
      refine l_q rfl rfl rfl (q_move rfl rfl) ?_
      refine l_q rfl rfl rfl ((by first | exact q_indexAddrVN rfl Try.underlying22 ti25 rfl rfl (by omega) | exact q_indexAddrN rfl Try.underlying22 ti25 rfl rfl (Sl.shape hv (List.length_map _)) (by omega) | exact q_indexAddrN rfl Try.underlying22 ti25 rfl rfl (Sl.shape hfu (List.length_map _)) (by omega) | exact q_indexAddrV rfl Try.underlying22 ti25 rfl rfl (by omega) | exact q_indexAddr rfl Try.underlying22 ti25 rfl rfl (Sl.shape hv (List.length_map _)) (by omega) | exact q_indexAddr rfl Try.underlying22 ti25 rfl rfl (Sl.shape hfu (List.length_map _)) (by omega))) ?_
      refine l_q rfl rfl rfl (q_fieldAddr rfl Try.underlying25 rfl rfl ti9 rfl rfl) ?_
      refine l_q rfl rfl rfl ((by first | exact q_load_row rfl Try.underlying9 rfl rfl (by rfl) | exact q_load rfl Try.underlying9 rfl rfl (rd_pc_t (i := k) hv (by omega)) | exact q_load rfl Try.underlying9 rfl rfl (rd_row1 (i := i) hfu (by omega)))) ?_
      refine l_q rfl rfl rfl (q_len_str rfl Try.underlying9 rfl) ?_
      refine l_q rfl rfl rfl (q_add64 rfl rfl rfl (by omega)) ?_
      refine l_q rfl rfl rfl (q_assign rfl rfl) ?_
      refine l_nil ?_
      refine n_block ?_
      refine n_then ?_
      refine t_region ?_
      refine l_q rfl rfl rfl (q_add64 rfl rfl rfl (by omega)) ?_
      refine l_q rfl rfl rfl (q_move rfl rfl) ?_
      refine l_nil ?_
      refine n_roundE (k + 1) ?_ ?_ (sub_cons rfl (sub_cons' rfl (by rw [tot_take (by omega), Int.natCast_add, ← Int.add_assoc]) (sub_nil))) (sub_cons rfl (sub_cons rfl (sub_cons rfl (sub_cons rfl (sub_cons rfl sub_nil))))) (fun _ h => by try dsimp only; exact subC_st h)
      · show k + 1 ≤ _; omega
      · show l.length - (k + 1) < l.length - k; omega
    · skip
      try simp at hc1
      rw [List.take_of_length_le (by omega)] at *
      refine t_exit ?_
      refine n_exit_then ?_
      refine n_exit_then ?_
      refine n_exit_block ?_
      refine n_then ?_
      refine t_seq ?_
      refine t_seq ?_
      refine t_region ?_
      refine l_q rfl rfl rfl (q_move rfl rfl) ?_
      refine l_q rfl rfl rfl (q_gtr rfl rfl rfl) ?_
      refine l_nil ?_
      refine n_then ?_
      refine t_cond rfl (fun hc2 => ?_) (fun hc2 => ?_)
      · skip
        try simp at hc2
        refine t_seq ?_
        refine t_region ?_
        refine l_q rfl rfl rfl (q_assign rfl rfl) ?_
        refine l_nil ?_
        refine n_then ?_
        refine t_ret ?_
        refine n_ret_then ?_
        refine n_ret1 rfl rfl (fun w' hw => ?_)
        -- leaf 0
        exact ⟨rfl, hw.below⟩
      · skip
        try simp at hc2
        refine t_skip ?_
        refine n_then ?_
        refine t_seq ?_
        refine t_region ?_
        refine l_q rfl rfl rfl (q_move rfl rfl) ?_
        refine l_q rfl rfl rfl (q_move rfl rfl) ?_
        refine l_e rfl rfl rfl (eff_call rfl rfl rfl Try.func9 (by kernel_rfl) rfl (fun w hw => fields_calls _ l ifs _ _ _ w (by omega) (fun p hp => Nat.le_trans (hpl p hp) (by decide)) (by omega) hv hw)) ?_
        rintro _ J2 _ ⟨hJ2, rfl, fv, err, rfl, hok⟩
        refine l_q rfl rfl rfl (q_move rfl rfl) ?_
        refine l_q rfl rfl rfl (q_extract rfl rfl rfl) ?_
        refine l_q rfl rfl rfl (q_extract rfl rfl rfl) ?_
        refine l_q rfl rfl rfl (q_assign rfl rfl) ?_
        refine l_q rfl rfl rfl (q_assign rfl rfl) ?_
        refine l_nil ?_
        refine n_then ?_
        refine t_seq ?_
        refine t_region ?_
        refine l_q rfl rfl rfl (q_move rfl rfl) ?_
        refine l_q rfl rfl rfl (q_move rfl rfl) ?_
        refine l_e rfl rfl rfl (eff_call rfl rfl rfl Try.func10 (by kernel_rfl) rfl (fun w hw => refFields_calls _ l ifs _ _ _ w (by omega) (by omega) (by omega) (hv.mono hJ2) hw)) ?_
        rintro _ J3 _ ⟨hJ3, rfl, gv, err2, rfl, hok2⟩
        obtain ⟨xs, hx1, hx2, hxn, hxi, rfl⟩ := fields_both hok hJ3 hok2
        obtain ⟨us, hfu, hus⟩ := id hx1
        have hul := hus.1
        refine l_q rfl rfl rfl (q_move rfl rfl) ?_
        refine l_q rfl rfl rfl (q_extract rfl rfl rfl) ?_
        refine l_q rfl rfl rfl (q_extract rfl rfl rfl) ?_
        refine l_q rfl rfl rfl (q_assign rfl rfl) ?_
        refine l_q rfl rfl rfl (q_assign rfl rfl) ?_
        refine l_nil ?_
        refine n_then ?_
        refine t_seq ?_
        refine t_seq ?_
        refine t_region ?_
        refine l_q rfl rfl rfl (q_move rfl rfl) ?_
        refine l_q rfl rfl rfl ((by first | exact q_lenV rfl Try.underlying26 rfl | exact q_len rfl Try.underlying26 rfl (Sl.lenOf hv (List.length_map _)) | exact q_len rfl Try.underlying26 rfl (Sl.lenOf hfu (List.length_map _)))) ?_
        refine l_q rfl rfl rfl (q_move rfl rfl) ?_
        refine l_nil ?_
        refine n_then ?_
        refine t_block ?_
        refine t_loopE (ι := Nat) (fun zz => zz ≤ us.length) (fun zz => us.length - zz) (fun zz => [(46, .int .i64 (zz : Int))]) [(18, _), (5, _), (0, _), (1, _), (13, _), (17, _), (19, _), (31, _), (7, _), (8, _), (9, _), (10, _), (45, _)] (fun zz => J3) (fun zz => []) 0 ?_ (sub_cons rfl sub_nil) (sub_cons rfl (sub_cons rfl (sub_cons rfl (sub_cons rfl (sub_cons rfl (sub_cons rfl (sub_cons rfl (sub_cons rfl (sub_cons rfl (sub_cons rfl (sub_cons rfl (sub_cons rfl (sub_cons rfl sub_nil))))))))))))) (fun _ h => subC_st h) ?_
        · exact Nat.zero_le _
        rintro i hi
        dsimp only at *
        refine t_seq ?_
        refine t_region ?_
        refine l_q rfl rfl rfl (q_lss rfl rfl rfl) ?_
        refine l_nil ?_
        refine n_then ?_
        refine t_seq ?_
        refine t_cond rfl (fun hc3 => ?_) (fun hc3 => ?_)
        · skip
          try simp at hc3
          refine t_skip ?_
          refine n_then ?_
          refine t_seq ?_
          refine t_block ?_
          refine t_seq ?_
          refine t_region ?_
          refine l_q rfl rfl rfl (q_move rfl rfl) ?_
          refine l_q rfl rfl rfl (q_assign rfl rfl) ?_
          refine l_nil ?_
          refine n_then ?_
          refine t_seq ?_
          refine t_qdraw mo (by kernel_rfl) (fun _ _ _ _ _ h => h) ?_
          refine s_q rfl rfl rfl (q_move rfl rfl) ?_
          refine s_q rfl rfl rfl (q_move rfl rfl) ?_
          refine s_q rfl rfl rfl ((by first | exact q_indexAddrVN rfl Try.underlying26 ti33 rfl rfl (by omega) | exact q_indexAddrN rfl Try.underlying26 ti33 rfl rfl (Sl.shape hv (List.length_map _)) (by omega) | exact q_indexAddrN rfl Try.underlying26 ti33 rfl rfl (Sl.shape hfu (List.length_map _)) (by omega) | exact q_indexAddrV rfl Try.underlying26 ti33 rfl rfl (by omega) | exact q_indexAddr rfl Try.underlying26 ti33 rfl rfl (Sl.shape hv (List.length_map _)) (by omega) | exact q_indexAddr rfl Try.underlying26 ti33 rfl rfl (Sl.shape hfu (List.length_map _)) (by omega))) ?_
          refine s_q rfl rfl rfl ((by first | exact q_load_row rfl Try.underlying33 rfl rfl (by rfl) | exact q_load rfl Try.underlying33 rfl rfl (rd_pc_t (i := k) hv (by omega)) | exact q_load rfl Try.underlying33 rfl rfl (rd_row1 (i := i) hfu (by omega)))) ?_
          refine s_q rfl rfl rfl (quiet_call rfl rfl rfl Try.func11 (by kernel_rfl) rfl (fun w hw => text_pure _ (nth xs i []) w (hxi _ (nth_mem (by omega))) ((hus.at_ (i := i) (by omega)).mono hw.le))) ?_
          refine s_q rfl rfl rfl (q_move rfl rfl) ?_
          refine s_q rfl rfl rfl (q_move rfl rfl) ?_
          refine s_q rfl rfl rfl ((by first | exact q_indexAddrVN rfl Try.underlying26 ti33 rfl rfl (by omega) | exact q_indexAddrN rfl Try.underlying26 ti33 rfl rfl (Sl.shape hv (List.length_map _)) (by omega) | exact q_indexAddrN rfl Try.underlying26 ti33 rfl rfl (Sl.shape hfu (List.length_map _)) (by omega) | exact q_indexAddrV rfl Try.underlying26 ti33 rfl rfl (by omega) | exact q_indexAddr rfl Try.underlying26 ti33 rfl rfl (Sl.shape hv (List.length_map _)) (by omega) | exact q_indexAddr rfl Try.underlying26 ti33 rfl rfl (Sl.shape hfu (List.length_map _)) (by omega))) ?_
          refine s_q rfl rfl rfl ((by first | exact q_load_row rfl Try.underlying33 rfl rfl (by rfl) | exact q_load rfl Try.underlying33 rfl rfl (rd_pc_t (i := k) hv (by omega)) | exact q_load rfl Try.underlying33 rfl rfl (rd_row1 (i := i) hfu (by omega)))) ?_
          refine s_q rfl rfl rfl (quiet_call rfl rfl rfl Try.func12 (by kernel_rfl) rfl (fun w hw => refText_pure _ (nth xs i []) w (hxi _ (nth_mem (by omega))) ((hus.at_ (i := i) (by omega)).mono hw.le))) ?_
          refine s_q rfl rfl rfl (q_neq_str rfl rfl rfl) ?_
          refine s_done ?_
          refine n_then ?_
          refine t_cond rfl (fun hc4 => ?_) (fun hc4 => ?_)
          · skip
            try simp at hc4
          · skip
            try simp at hc4
            refine t_skip ?_
            refine n_block ?_
            refine n_then ?_
            refine t_region ?_
            refine l_q rfl rfl rfl (q_add64 rfl rfl rfl (by omega)) ?_
            refine l_q rfl rfl rfl (q_move rfl rfl) ?_
            refine l_nil ?_
            refine n_roundE (i + 1) ?_ ?_ (sub_cons rfl sub_nil) (sub_cons rfl (sub_cons rfl (sub_cons rfl (sub_cons rfl (sub_cons rfl (sub_cons rfl (sub_cons rfl (sub_cons rfl (sub_cons rfl (sub_cons rfl (sub_cons rfl (sub_cons rfl (sub_cons rfl sub_nil))))))))))))) (fun _ h => by try dsimp only; exact subC_st h)
            · show i + 1 ≤ _; omega
            · show us.length - (i + 1) < us.length - i; omega
        · skip
          try simp at hc3
          refine t_exit ?_
          refine n_exit_then ?_
          refine n_exit_then ?_
          refine n_exit_block ?_
          refine n_then ?_
          refine t_seq ?_
          refine t_qreg ?_
          refine s_q rfl rfl rfl (q_move rfl rfl) ?_
          refine s_q rfl rfl rfl (q_move rfl rfl) ?_
          refine s_q rfl rfl rfl (q_eql rfl rfl rfl) ?_
          refine s_q rfl rfl rfl (q_move rfl rfl) ?_
          refine s_short 3 3 64 68 67 true _ _ rfl rfl rfl rfl rfl rfl (fun h68 => by
              try simp at h68
              refine s_g rfl rfl rfl rfl rfl rfl (q_move rfl rfl) ?_
              refine s_g rfl rfl rfl rfl rfl rfl (q_move rfl rfl) ?_
              refine s_g rfl rfl rfl rfl rfl rfl (quiet_call rfl rfl rfl Try.func13 (by kernel_rfl) rfl (fun w hw => same_pure _ _ xs xs w hxn hxn hxi (hx1.mono hw.le) (hx2.mono hw.le))) ?_
              exact s_val rfl
            ) rfl rfl rfl (.inl ⟨rfl, rfl⟩) ?_
          refine s_q rfl rfl rfl (q_assign rfl rfl) ?_
          refine s_done ?_
          refine n_then ?_
          refine t_ret ?_
          refine n_ret1 rfl rfl (fun w' hw => ?_)
          -- leaf 1
          refine ⟨?_, (hw.less (hJ2.trans hJ3)).below⟩
          simp
end Go.Tri
