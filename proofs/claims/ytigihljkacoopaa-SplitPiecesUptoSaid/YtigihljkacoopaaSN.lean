/-
  A text of a proof (SN).
-/
import Derived.Test.YtigihljkacoopaaPBack
import Derived.Test.YtigihljkacoopaaSL
namespace Go.Tri
open Go.Proofs Go.RowKit
set_option maxRecDepth 10000 in
theorem splitBack_pure (vl : Value) (l : List (List UInt8)) (c : UInt8) (w : World) (hll : l.length ≤ 1048576) (htl : totS l ≤ 1048576) (hv : Sl (look w) 1 vl (l.map stC)) : Pure Try.prog 6 [vl, u8 c] w (.bool true) := by
  refine enter Try.func6 rfl Try.ntmps6 rfl (St.start w (look w) (Le.refl _)) ?_
  refine t_seq ?_
  refine t_region ?_
  refine l_q rfl rfl rfl (q_assign rfl rfl) ?_
  refine l_nil ?_
  refine n_then ?_
  refine t_seq ?_
  refine t_seq ?_
  refine t_region ?_
  refine l_q rfl rfl rfl (quiet_call rfl rfl rfl Try.func8 (by kernel_rfl) rfl (fun w _ => awake_pure w)) ?_
  refine l_q rfl rfl rfl (q_not rfl rfl) ?_
  refine l_nil ?_
  refine n_then ?_
  refine t_cond rfl (fun hc0 => ?_) (fun hc0 => ?_)
  · skip
    try simp at hc0
  · skip
    try simp at hc0
    refine t_skip ?_
    refine n_then ?_
    refine t_seq ?_
    refine t_seq ?_
    refine t_qreg ?_
    refine s_q rfl rfl rfl (q_move rfl rfl) ?_
    refine s_q rfl rfl rfl ((by first | exact q_lenV rfl Try.underlying36 rfl | exact q_len rfl Try.underlying36 rfl (Sl.lenOf hv (List.length_map _)) | exact q_len rfl Try.underlying36 rfl (Sl.lenOf hfv (List.length_map _)))) ?_
    refine s_q rfl rfl rfl (q_gtr rfl rfl rfl) ?_
    refine s_q rfl rfl rfl (q_move rfl rfl) ?_
    refine s_short 2 3 17 20 19 false _ _ rfl rfl rfl rfl rfl rfl (fun h20 => by
        try simp at h20
        refine s_g rfl rfl rfl rfl rfl rfl (q_move rfl rfl) ?_
        refine s_g rfl rfl rfl rfl rfl rfl (q_eql_u8c rfl rfl rfl rfl) ?_
        exact s_val rfl
      ) rfl rfl rfl (.inr ⟨rfl, rfl⟩) ?_
    refine s_q rfl rfl rfl (q_move rfl rfl) ?_
    refine s_short 2 7 21 24 23 false _ _ rfl rfl rfl rfl rfl rfl (fun h24 => by
        try simp at h24
        refine s_g rfl rfl rfl rfl rfl rfl (q_move rfl rfl) ?_
        refine s_g rfl rfl rfl rfl rfl rfl (q_eql_u8c rfl rfl rfl rfl) ?_
        exact s_val rfl
      ) rfl rfl rfl (.inr ⟨rfl, rfl⟩) ?_
    refine s_q rfl rfl rfl (q_move rfl rfl) ?_
    refine s_short 2 11 25 28 27 false _ _ rfl rfl rfl rfl rfl rfl (fun h28 => by
        try simp at h28
        refine s_g rfl rfl rfl rfl rfl rfl (q_move rfl rfl) ?_
        refine s_g rfl rfl rfl rfl rfl rfl (q_eql_u8c rfl rfl rfl rfl) ?_
        exact s_val rfl
      ) rfl rfl rfl (.inr ⟨rfl, rfl⟩) ?_
    refine s_done ?_
    refine n_then ?_
    refine t_cond rfl (fun hc1 => ?_) (fun hc1 => ?_)
    · skip
      refine t_seq ?_
      refine t_region ?_
      refine l_q rfl rfl rfl (q_assign rfl rfl) ?_
      refine l_nil ?_
      refine n_then ?_
      refine t_ret ?_
      refine n_ret_then ?_
      refine n_ret1 rfl rfl (fun w' hw => ?_)
      -- leaf 0
      exact ⟨rfl, hw.below⟩
    · skip
      have h1 : (decide ((100 : Int) < (l.length : Int)) || decide (c = 9) || decide (c = 10) || decide (c = 32)) = false := hc1
      simp only [Bool.or_eq_false_iff, decide_eq_false_iff_not] at h1
      have hsoft : isSoftB c = false := by simp [isSoftB, h1.1.1.2, h1.1.2, h1.2]
      have hl100 : l.length ≤ 100 := by have := h1.1.1.1; omega
      refine t_skip ?_
      refine n_then ?_
      refine t_seq ?_
      refine t_region ?_
      refine l_q rfl rfl rfl (q_assign rfl rfl) ?_
      refine l_nil ?_
      refine n_then ?_
      refine t_seq ?_
      refine t_seq ?_
      refine t_region ?_
      refine l_q rfl rfl rfl (q_move rfl rfl) ?_
      refine l_q rfl rfl rfl ((by first | exact q_lenV rfl Try.underlying36 rfl | exact q_len rfl Try.underlying36 rfl (Sl.lenOf hv (List.length_map _)) | exact q_len rfl Try.underlying36 rfl (Sl.lenOf hfv (List.length_map _)))) ?_
      refine l_q rfl rfl rfl (q_move rfl rfl) ?_
      refine l_nil ?_
      refine n_then ?_
      refine t_block ?_
      refine t_loopE (ι := Nat) (fun zz => zz ≤ l.length ∧ ∀ t ∈ l.take zz, ∀ b ∈ t, b ≠ c) (fun zz => l.length - zz) (fun zz => [(31, .int .i64 (zz : Int)), (5, str (backS (l.take zz) c))]) [(0, _), (1, _), (13, _), (28, _), (29, _), (30, _)] (fun zz => look w) (fun zz => []) 0 ?_ (sub_cons rfl (sub_cons rfl sub_nil)) (sub_cons rfl (sub_cons rfl (sub_cons rfl (sub_cons rfl (sub_cons rfl (sub_cons rfl sub_nil)))))) (fun _ h => subC_st h) ?_
      · exact ⟨Nat.zero_le _, fun t ht => by cases ht⟩
      rintro k ⟨hk, hno⟩
      dsimp only at *
      have hbl := backS_len (l.take k) c
      have htk := totS_take_le l k
      have hlk : (l.take k).length ≤ l.length := by rw [List.length_take]; omega
      refine t_seq ?_
      refine t_region ?_
      refine l_q rfl rfl rfl (q_lss rfl rfl rfl) ?_
      refine l_nil ?_
      refine n_then ?_
      refine t_seq ?_
      refine t_cond rfl (fun hc2 => ?_) (fun hc2 => ?_)
      · skip
        try simp at hc2
        have hpk : (nth l k []).length ≤ 1048576 := Nat.le_trans (totS_mem (nth_mem (by omega))) htl
        refine t_skip ?_
        refine n_then ?_
        refine t_seq ?_
        refine t_block ?_
        refine t_seq ?_
        refine t_region ?_
        refine l_q rfl rfl rfl ((by first | exact q_indexAddrVN rfl Try.underlying36 ti9 rfl rfl (by omega) | exact q_indexAddrN rfl Try.underlying36 ti9 rfl rfl (Sl.shape hv (List.length_map _)) (by omega) | exact q_indexAddrN rfl Try.underlying36 ti9 rfl rfl (Sl.shape hfv (List.length_map _)) (by omega) | exact q_indexAddrV rfl Try.underlying36 ti9 rfl rfl (by omega) | exact q_indexAddr rfl Try.underlying36 ti9 rfl rfl (Sl.shape hv (List.length_map _)) (by omega) | exact q_indexAddr rfl Try.underlying36 ti9 rfl rfl (Sl.shape hfv (List.length_map _)) (by omega))) ?_
        refine l_q rfl rfl rfl ((by first | exact q_load_row rfl Try.underlying9 rfl rfl (by rfl) | exact q_load rfl Try.underlying9 rfl rfl (rd_st (i := k) hv (by omega)) | exact q_load rfl Try.underlying9 rfl rfl (rd_row1 (i := i) hfv (by omega)) | exact q_load rfl Try.underlying9 rfl rfl (rd_st (i := i) (hv.mono (hJ.trans hJ2)) (by omega)))) ?_
        refine l_q rfl rfl rfl (q_assign rfl rfl) ?_
        refine l_nil ?_
        refine n_then ?_
        refine t_seq ?_
        refine t_seq ?_
        refine t_region ?_
        refine l_q rfl rfl rfl (q_assign rfl rfl) ?_
        refine l_nil ?_
        refine n_then ?_
        refine t_block ?_
        refine t_loopE (ι := Nat) (fun zz => zz ≤ (nth l k []).length ∧ ∀ m, m < zz → nth (nth l k []) m 0 ≠ c) (fun zz => (nth l k []).length - zz) (fun zz => [(8, .int .i64 (zz : Int))]) [(31, _), (5, _), (0, _), (1, _), (13, _), (28, _), (29, _), (30, _), (32, _), (7, _)] (fun zz => look w) (fun zz => []) 0 ?_ (sub_cons rfl sub_nil) (sub_cons rfl (sub_cons rfl (sub_cons rfl (sub_cons rfl (sub_cons rfl (sub_cons rfl (sub_cons rfl (sub_cons rfl (sub_cons rfl (sub_cons rfl sub_nil)))))))))) (fun _ h => subC_st h) ?_
        · exact ⟨Nat.zero_le _, fun m hm => absurd hm (Nat.not_lt_zero m)⟩
        rintro j ⟨hj, hin⟩
        dsimp only at *
        refine t_seq ?_
        refine t_seq ?_
        refine t_region ?_
        refine l_q rfl rfl rfl (q_move rfl rfl) ?_
        refine l_q rfl rfl rfl (q_move rfl rfl) ?_
        refine l_q rfl rfl rfl (q_len_str rfl Try.underlying9 rfl) ?_
        refine l_q rfl rfl rfl (q_lss rfl rfl rfl) ?_
        refine l_nil ?_
        refine n_then ?_
        refine t_cond rfl (fun hc3 => ?_) (fun hc3 => ?_)
        · skip
          try simp at hc3
          refine t_skip ?_
          refine n_then ?_
          refine t_seq ?_
          refine t_block ?_
          refine t_seq ?_
          refine t_region ?_
          refine l_q rfl rfl rfl (q_move rfl rfl) ?_
          refine l_q rfl rfl rfl (q_move rfl rfl) ?_
          refine l_q rfl rfl rfl ((by first | exact q_index_strN rfl Try.underlying9 rfl rfl (by omega) | exact q_index_str rfl Try.underlying9 rfl rfl (by omega))) ?_
          refine l_q rfl rfl rfl (q_move rfl rfl) ?_
          refine l_q rfl rfl rfl (q_eql_u8 rfl rfl rfl) ?_
          refine l_nil ?_
          refine n_then ?_
          refine t_cond rfl (fun hcin => ?_) (fun hcin => ?_)
          · skip
            try simp at hcin
            refine t_seq ?_
            refine t_region ?_
            refine l_q rfl rfl rfl (q_assign rfl rfl) ?_
            refine l_nil ?_
            refine n_then ?_
            refine t_ret ?_
            refine n_ret_block ?_
            refine n_ret_then ?_
            refine n_ret_then ?_
            refine n_ret_block ?_
            refine n_ret_then ?_
            refine n_ret_block ?_
            refine n_ret_then ?_
            refine n_ret_then ?_
            refine n_ret_block ?_
            refine n_ret_then ?_
            refine n_ret1 rfl rfl (fun w' hw => ?_)
            -- leaf 1
            exact ⟨rfl, hw.below⟩
          · skip
            try simp at hcin
            refine t_skip ?_
            refine n_block ?_
            refine n_then ?_
            refine t_region ?_
            refine l_q rfl rfl rfl (q_move rfl rfl) ?_
            refine l_q rfl rfl rfl (q_add64 rfl rfl rfl (by omega)) ?_
            refine l_q rfl rfl rfl (q_assign rfl rfl) ?_
            refine l_nil ?_
            refine n_roundE (j + 1) ?_ ?_ (sub_cons rfl sub_nil) (sub_cons rfl (sub_cons rfl (sub_cons rfl (sub_cons rfl (sub_cons rfl (sub_cons rfl (sub_cons rfl (sub_cons rfl (sub_cons rfl (sub_cons rfl sub_nil)))))))))) (fun _ h => by try dsimp only; exact subC_st h)
            · refine ⟨(show j + 1 ≤ _ by omega), fun m hm => ?_⟩; rcases Nat.lt_succ_iff_lt_or_eq.1 hm with h | rfl; exact hin m h; exact hcin
            · show (nth l k []).length - (j + 1) < (nth l k []).length - j; omega
        · skip
          try simp at hc3
          refine t_exit ?_
          refine n_exit_then ?_
          refine n_exit_then ?_
          refine n_exit_block ?_
          refine n_then ?_
          refine t_region ?_
          refine l_q rfl rfl rfl (q_move rfl rfl) ?_
          refine l_q rfl rfl rfl (q_move rfl rfl) ?_
          refine l_q rfl rfl rfl (q_move rfl rfl) ?_
          refine l_e rfl rfl rfl (e_buildSlice1 rfl Try.underlying38 ti5 rfl rfl rfl (by first | exact One.cells (by assumption) | rfl) rfl) ?_
          rintro _ _ _ ⟨b49, rfl, rfl, rfl⟩
          refine l_heap (H' := tvec 5 1 byC (.slice (some ⟨b49, 0, none⟩) 1 1) [c] :: _) ?_ (fun _ h => st_rowVec h rfl (by decide))
          refine l_q rfl rfl rfl (q_bytes_str rfl Try.underlying38 Try.underlying9 Try.underlying5 rfl) ?_
          refine l_q rfl rfl rfl (q_cat rfl rfl rfl (by first | omega | (simp only [List.length_append, List.length_cons, List.length_nil]; omega))) ?_
          refine l_q rfl rfl rfl (q_cat rfl rfl rfl (by first | omega | (simp only [List.length_append, List.length_cons, List.length_nil]; omega))) ?_
          refine l_q rfl rfl rfl (q_assign rfl rfl) ?_
          refine l_nil ?_
          refine n_block ?_
          refine n_then ?_
          refine t_region ?_
          refine l_q rfl rfl rfl (q_add64 rfl rfl rfl (by omega)) ?_
          refine l_q rfl rfl rfl (q_move rfl rfl) ?_
          refine l_nil ?_
          refine n_roundE (k + 1) ?_ ?_ (sub_cons rfl (sub_cons' rfl (by rw [backS_take c (by omega)]) (sub_nil))) (sub_cons rfl (sub_cons rfl (sub_cons rfl (sub_cons rfl (sub_cons rfl (sub_cons rfl sub_nil)))))) (fun _ h => by try dsimp only; exact subC_st h)
          · refine ⟨(show k + 1 ≤ _ by omega), fun t ht => ?_⟩
            rw [take_nth [] (show k < l.length by omega)] at ht
            rcases List.mem_append.1 ht with h | h
            · exact hno t h
            · rw [List.mem_singleton] at h; subst h; intro b hb
              obtain ⟨m, hm, rfl⟩ := List.getElem_of_mem hb
              have := hin m (by omega)
              rw [nth_eq hm] at this
              exact this
          · show l.length - (k + 1) < l.length - k; omega
      · skip
        try simp at hc2
        rw [List.take_of_length_le (by omega)] at *
        refine t_exit ?_
        refine n_exit_then ?_
        refine n_exit_then ?_
        refine n_exit_block ?_
        refine n_then ?_
        refine t_seq ?_
        refine t_seq ?_
        refine t_region ?_
        refine l_q rfl rfl rfl (q_move rfl rfl) ?_
        refine l_q rfl rfl rfl (q_len_str rfl Try.underlying9 rfl) ?_
        refine l_q rfl rfl rfl (q_gtr rfl rfl rfl) ?_
        refine l_nil ?_
        refine n_then ?_
        refine t_cond rfl (fun hc5 => ?_) (fun hc5 => ?_)
        · skip
          try simp at hc5
          refine t_seq ?_
          refine t_region ?_
          refine l_q rfl rfl rfl (q_assign rfl rfl) ?_
          refine l_nil ?_
          refine n_then ?_
          refine t_ret ?_
          refine n_ret_then ?_
          refine n_ret1 rfl rfl (fun w' hw => ?_)
          -- leaf 2
          exact ⟨rfl, hw.below⟩
        · skip
          try simp at hc5
          refine t_skip ?_
          refine n_then ?_
          refine t_seq ?_
          refine t_region ?_
          refine l_q rfl rfl rfl (q_move rfl rfl) ?_
          refine l_q rfl rfl rfl (q_build (pl := [(_, _), (_, _), (_, _)]) (cs := (pcC ⟨backS l c, false, true⟩).toArray) rfl Try.underlying25 ti25 ⟨rfl, ⟨_, _, ti9⟩, rfl, ⟨_, _, ti4⟩, rfl, ⟨_, _, ti4⟩, trivial⟩ rfl rfl) ?_
          refine l_e rfl rfl rfl (e_buildSlice1 rfl Try.underlying22 ti25 rfl rfl rfl (by first | exact One.cells (by assumption) | rfl) rfl) ?_
          rintro _ _ _ ⟨b60, rfl, rfl, rfl⟩
          refine l_heap (H' := tvec 25 3 pcC (.slice (some ⟨b60, 0, none⟩) 1 1) [⟨backS l c, false, true⟩] :: _) ?_ (fun _ h => st_rowVec h rfl (by decide))
          refine l_freezeT (f := pcC) (l := [⟨backS l c, false, true⟩]) (.slice (some ⟨b60, 0, none⟩) 1 1) (fun _ => rfl) (fun J hJ hsl => ?_)
          refine l_q rfl rfl rfl (q_move rfl rfl) ?_
          refine l_e rfl rfl rfl (e_buildSlice1 rfl Try.underlying38 ti5 rfl rfl rfl (by first | exact One.cells (by assumption) | rfl) rfl) ?_
          rintro _ _ _ ⟨b62, rfl, rfl, rfl⟩
          refine l_heap (H' := tvec 5 1 byC (.slice (some ⟨b62, 0, none⟩) 1 1) [c] :: _) ?_ (fun _ h => st_rowVec h rfl (by decide))
          refine l_q rfl rfl rfl (q_bytes_str rfl Try.underlying38 Try.underlying9 Try.underlying5 rfl) ?_
          refine l_e rfl rfl rfl (eff_call rfl rfl rfl Try.func9 (by kernel_rfl) rfl (fun w hw => fields_calls _ [⟨backS l c, false, true⟩] [c] _ _ _ w (by simp) (fun p hp => by rw [List.mem_singleton] at hp; subst hp; show (backS l c).length ≤ _; omega) (by show (backS l c).length + 0 ≤ _; omega) hsl hw)) ?_
          rintro _ J2 _ ⟨hJ2, rfl, fv, err, rfl, hok⟩
          have hfb := fields_back l c hsoft hno
          rw [hfb] at hok
          have okb := ok_back l (by omega) (by omega)
          rw [if_pos okb] at hok
          obtain ⟨rfl, fs, hfv, hfs⟩ := hok
          have hfi := fields_short okb
          have hfl : fs.length = l.length := by rw [hfs.1, List.length_map]
          refine l_q rfl rfl rfl (q_move rfl rfl) ?_
          refine l_q rfl rfl rfl (q_extract rfl rfl rfl) ?_
          refine l_q rfl rfl rfl (q_extract rfl rfl rfl) ?_
          refine l_q rfl rfl rfl (q_assign rfl rfl) ?_
          refine l_q rfl rfl rfl (q_assign rfl rfl) ?_
          refine l_nil ?_
          refine n_then ?_
          refine t_seq ?_
          refine t_seq ?_
          refine t_qreg ?_
          refine s_q rfl rfl rfl (q_move rfl rfl) ?_
          refine s_q rfl rfl rfl (q_neq rfl rfl rfl) ?_
          refine s_q rfl rfl rfl (q_move rfl rfl) ?_
          refine s_short 5 2 69 75 74 false _ _ rfl rfl rfl rfl rfl rfl (fun h75 => by
              try simp at h75
              refine s_g rfl rfl rfl rfl rfl rfl (q_move rfl rfl) ?_
              refine s_g rfl rfl rfl rfl rfl rfl ((by first | exact q_lenV rfl Try.underlying26 rfl | exact q_len rfl Try.underlying26 rfl (Sl.lenOf hv (List.length_map _)) | exact q_len rfl Try.underlying26 rfl (Sl.lenOf hfv (List.length_map _)))) ?_
              refine s_g rfl rfl rfl rfl rfl rfl (q_move rfl rfl) ?_
              refine s_g rfl rfl rfl rfl rfl rfl ((by first | exact q_lenV rfl Try.underlying36 rfl | exact q_len rfl Try.underlying36 rfl (Sl.lenOf hv (List.length_map _)) | exact q_len rfl Try.underlying36 rfl (Sl.lenOf hfv (List.length_map _)))) ?_
              refine s_g rfl rfl rfl rfl rfl rfl (q_neq rfl rfl rfl) ?_
              exact s_val rfl
            ) rfl rfl rfl (.inr ⟨rfl, rfl⟩) ?_
          refine s_done ?_
          refine n_then ?_
          refine t_cond rfl (fun hc6 => ?_) (fun hc6 => ?_)
          · skip
            exfalso
            simp [hfl] at hc6
          · skip
            refine t_skip ?_
            refine n_then ?_
            refine t_seq ?_
            refine t_seq ?_
            refine t_region ?_
            refine l_q rfl rfl rfl (q_move rfl rfl) ?_
            refine l_q rfl rfl rfl ((by first | exact q_lenV rfl Try.underlying26 rfl | exact q_len rfl Try.underlying26 rfl (Sl.lenOf hv (List.length_map _)) | exact q_len rfl Try.underlying26 rfl (Sl.lenOf hfv (List.length_map _)))) ?_
            refine l_q rfl rfl rfl (q_move rfl rfl) ?_
            refine l_nil ?_
            refine n_then ?_
            refine t_block ?_
            refine t_loopE (ι := Nat) (fun zz => zz ≤ fs.length) (fun zz => fs.length - zz) (fun zz => [(78, .int .i64 (zz : Int))]) [(31, _), (5, _), (0, _), (1, _), (13, _), (28, _), (29, _), (30, _), (32, _), (56, _), (9, _), (10, _), (75, _), (77, _)] (fun zz => J2) (fun zz => []) 0 ?_ (sub_cons rfl sub_nil) (sub_cons rfl (sub_cons rfl (sub_cons rfl (sub_cons rfl (sub_cons rfl (sub_cons rfl (sub_cons rfl (sub_cons rfl (sub_cons rfl (sub_cons rfl (sub_cons rfl (sub_cons rfl (sub_cons rfl (sub_cons rfl sub_nil)))))))))))))) (fun _ h => subC_st h) ?_
            · exact Nat.zero_le _
            rintro i hi
            dsimp only at *
            refine t_seq ?_
            refine t_region ?_
            refine l_q rfl rfl rfl (q_lss rfl rfl rfl) ?_
            refine l_nil ?_
            refine n_then ?_
            refine t_seq ?_
            refine t_cond rfl (fun hc7 => ?_) (fun hc7 => ?_)
            · skip
              try simp at hc7
              refine t_skip ?_
              refine n_then ?_
              refine t_seq ?_
              refine t_block ?_
              refine t_seq ?_
              refine t_region ?_
              refine l_q rfl rfl rfl (q_move rfl rfl) ?_
              refine l_q rfl rfl rfl (q_assign rfl rfl) ?_
              refine l_nil ?_
              refine n_then ?_
              refine t_seq ?_
              refine t_qdraw mo (by kernel_rfl) (fun _ _ _ _ _ h => h) ?_
              refine s_q rfl rfl rfl (q_move rfl rfl) ?_
              refine s_q rfl rfl rfl (q_move rfl rfl) ?_
              refine s_q rfl rfl rfl ((by first | exact q_indexAddrVN rfl Try.underlying26 ti33 rfl rfl (by omega) | exact q_indexAddrN rfl Try.underlying26 ti33 rfl rfl (Sl.shape hv (List.length_map _)) (by omega) | exact q_indexAddrN rfl Try.underlying26 ti33 rfl rfl (Sl.shape hfv (List.length_map _)) (by omega) | exact q_indexAddrV rfl Try.underlying26 ti33 rfl rfl (by omega) | exact q_indexAddr rfl Try.underlying26 ti33 rfl rfl (Sl.shape hv (List.length_map _)) (by omega) | exact q_indexAddr rfl Try.underlying26 ti33 rfl rfl (Sl.shape hfv (List.length_map _)) (by omega))) ?_
              refine s_q rfl rfl rfl ((by first | exact q_load_row rfl Try.underlying33 rfl rfl (by rfl) | exact q_load rfl Try.underlying33 rfl rfl (rd_st (i := k) hv (by omega)) | exact q_load rfl Try.underlying33 rfl rfl (rd_row1 (i := i) hfv (by omega)) | exact q_load rfl Try.underlying33 rfl rfl (rd_st (i := i) (hv.mono (hJ.trans hJ2)) (by omega)))) ?_
              refine s_q rfl rfl rfl (quiet_call rfl rfl rfl Try.func11 (by kernel_rfl) rfl (fun w hw => text_pure _ (nth (l.map plainF) i []) w (hfi _ (nth_mem (by rw [List.length_map]; omega))) ((hfs.at_ (i := i) (by rw [List.length_map]; omega)).mono hw.le))) ?_
              refine s_q rfl rfl rfl (q_move rfl rfl) ?_
              refine s_q rfl rfl rfl (q_move rfl rfl) ?_
              refine s_q rfl rfl rfl ((by first | exact q_indexAddrVN rfl Try.underlying36 ti9 rfl rfl (by omega) | exact q_indexAddrN rfl Try.underlying36 ti9 rfl rfl (Sl.shape hv (List.length_map _)) (by omega) | exact q_indexAddrN rfl Try.underlying36 ti9 rfl rfl (Sl.shape hfv (List.length_map _)) (by omega) | exact q_indexAddrV rfl Try.underlying36 ti9 rfl rfl (by omega) | exact q_indexAddr rfl Try.underlying36 ti9 rfl rfl (Sl.shape hv (List.length_map _)) (by omega) | exact q_indexAddr rfl Try.underlying36 ti9 rfl rfl (Sl.shape hfv (List.length_map _)) (by omega))) ?_
              refine s_q rfl rfl rfl ((by first | exact q_load_row rfl Try.underlying9 rfl rfl (by rfl) | exact q_load rfl Try.underlying9 rfl rfl (rd_st (i := k) hv (by omega)) | exact q_load rfl Try.underlying9 rfl rfl (rd_row1 (i := i) hfv (by omega)) | exact q_load rfl Try.underlying9 rfl rfl (rd_st (i := i) (hv.mono (hJ.trans hJ2)) (by omega)))) ?_
              refine s_q rfl rfl rfl (q_neq_str rfl rfl rfl) ?_
              refine s_done ?_
              refine n_then ?_
              refine t_cond rfl (fun hc8 => ?_) (fun hc8 => ?_)
              · skip
                exfalso
                rw [nth_map plainF [] [] (show i < l.length by omega), chText_plainF] at hc8
                simp at hc8
              · skip
                refine t_skip ?_
                refine n_block ?_
                refine n_then ?_
                refine t_region ?_
                refine l_q rfl rfl rfl (q_add64 rfl rfl rfl (by omega)) ?_
                refine l_q rfl rfl rfl (q_move rfl rfl) ?_
                refine l_nil ?_
                refine n_roundE (i + 1) ?_ ?_ (sub_cons rfl sub_nil) (sub_cons rfl (sub_cons rfl (sub_cons rfl (sub_cons rfl (sub_cons rfl (sub_cons rfl (sub_cons rfl (sub_cons rfl (sub_cons rfl (sub_cons rfl (sub_cons rfl (sub_cons rfl (sub_cons rfl (sub_cons rfl sub_nil)))))))))))))) (fun _ h => by try dsimp only; exact subC_st h)
                · show i + 1 ≤ _; omega
                · show fs.length - (i + 1) < fs.length - i; omega
            · skip
              try simp at hc7
              refine t_exit ?_
              refine n_exit_then ?_
              refine n_exit_then ?_
              refine n_exit_block ?_
              refine n_then ?_
              refine t_seq ?_
              refine t_region ?_
              refine l_q rfl rfl rfl (q_assign rfl rfl) ?_
              refine l_nil ?_
              refine n_then ?_
              refine t_ret ?_
              refine n_ret1 rfl rfl (fun w' hw => ?_)
              -- leaf 3
              exact ⟨rfl, (hw.less (hJ.trans hJ2)).below⟩
end Go.Tri
