/-
  Members of a bracket, one by one.
-/
import Derived.Test.YtlhjbemcapnmjaaPA2
namespace Go.Tri
open Go.Proofs Go.RowKit
theorem clsP_len (p : List Ch) : (clsP p).length ≤ 5 := by
  rcases cls_cases p with ⟨h, _⟩ | ⟨n, hn, _, h⟩
  · rw [h]; decide
  · rw [h, cls_len hn]; decide
theorem memC_ones (m : Mem) : ∀ u ∈ memC m, u.oneCell' = true := fun u hu => by
  simp only [memC, List.mem_cons, List.not_mem_nil, or_false] at hu
  rcases hu with rfl | rfl | rfl <;> rfl
theorem clsText_len {n : List UInt8} (h : n ∈ clsNames) : (clsText n).length = 9 := by simp [clsText, cls_len h]
theorem cls_len2 {i : Nat} (h : i < clsNames.length) : (nth clsNames i []).length = 5 := cls_len (nth_mem h)
theorem memP_cl {p : List Ch} (h : clsP p ≠ []) : memP p = (⟨clsP p, 0, 0⟩, (clsP p).length + 4) := if_pos h
theorem memP_rg {p : List Ch} (h : clsP p = []) (h2 : (decide ((2 : Int) < (p.length : Int)) && startsP (p.drop 1) [45] && !startsP (p.drop 2) [93]) = true) : memP p = (⟨[], (nth p 0 ch0).b, (nth p 2 ch0).b⟩, 3) := by
  unfold memP; rw [if_neg (by simp [h]), if_pos h2]
theorem memP_on {p : List Ch} (h : clsP p = []) (h2 : (decide ((2 : Int) < (p.length : Int)) && startsP (p.drop 1) [45] && !startsP (p.drop 2) [93]) = false) : memP p = (⟨[], (nth p 0 ch0).b, (nth p 0 ch0).b⟩, 1) := by
  unfold memP; rw [if_neg (by simp [h]), if_neg (fun h' => by rw [h'] at h2; cases h2)]
set_option maxRecDepth 10000 in
theorem members_iter (p : List Ch) (vp : Value) (b1 : Nat) (hp : p.length ≤ 4611686018427387904) : Iterates Try.prog 37 [.pointer (some ⟨b1, 0, none⟩)] (memVs p.length vp (memsG p true)) (fun I => CellI I b1 0 vp ∧ Sl I 2 vp (p.map chC)) := by
  intro γ Cd Cx G II lid hY w0 g00 F w hcd0 ⟨hb1, hv0⟩ hw0
  have hJ := Le.refl (II g00)
  have hvq := hv0
  refine enter Try.func37 rfl Try.ntmps37 rfl (hw0.self) ?_
  refine t_seq ?_
  refine t_region ?_
  refine l_q rfl rfl rfl (q_assign rfl rfl) ?_
  refine l_nil ?_
  refine n_then ?_
  refine t_seq ?_
  refine t_region ?_
  refine l_q rfl rfl rfl ((by first | exact q_load_row rfl Try.underlying22 rfl rfl (by rfl) | exact q_load rfl Try.underlying22 rfl rfl (rd_imm (hb1.mono hJ)) | exact q_load rfl Try.underlying22 rfl rfl (rd_ch_b0 (i := 0) hvq (by omega)) | exact q_load rfl Try.underlying22 rfl rfl (rd_ch_b0 (i := 0) (hvq.mono hI) (by omega)) | exact q_load rfl Try.underlying22 rfl rfl (rd_ch_b0 (i := 2) hvq (by omega)) | exact q_load_vec rfl Try.underlying22 rfl rfl (stC_at (by omega)))) ?_
  refine l_q rfl rfl rfl (q_assign rfl rfl) ?_
  refine l_nil ?_
  refine n_then ?_
  refine t_block ?_
  refine t_loopE (ι := List Ch × Value × Bool × Nat × γ) (fun zz => zz.2.2.2.1 ≤ (memVs p.length vp (memsG p true)).length ∧ Cd zz.2.2.2.1 zz.2.2.2.2 ∧ Le (II g00) (II zz.2.2.2.2) ∧ (memVs p.length vp (memsG p true)).drop zz.2.2.2.1 = memVs zz.1.length zz.2.1 (memsG zz.1 zz.2.2.1) ∧ Sl (II zz.2.2.2.2) 2 zz.2.1 (zz.1.map chC) ∧ zz.1.length ≤ 4611686018427387904) (fun zz => zz.1.length) (fun zz => [(3, .bool zz.2.2.1), (4, zz.2.1)]) [(0, _), (1, _)] (fun zz => (II zz.2.2.2.2)) (fun zz => (F ++ G zz.2.2.2.2)) (p, vp, true, 0, g00) ?_ (sub_cons rfl (sub_cons rfl sub_nil)) (sub_cons rfl (sub_cons rfl sub_nil)) (fun _ h => subC_st h) ?_
  · try dsimp only
    exact ⟨Nat.zero_le _, hcd0, Le.refl _, rfl, hv0, hp⟩
  rintro ⟨q, vq, fi, nn, g⟩ ⟨hn, hcd, hJ, hdr, hvq, hql⟩
  try dsimp only at *
  refine t_seq ?_
  refine t_seq ?_
  refine t_qreg ?_
  refine s_q rfl rfl rfl (q_move rfl rfl) ?_
  refine s_q rfl rfl rfl ((by first | exact q_lenV rfl Try.underlying22 rfl | exact q_len rfl Try.underlying22 rfl (Sl.lenOf hvq (List.length_map _)) | exact q_len rfl Try.underlying22 rfl (⟨_, _, rfl⟩))) ?_
  refine s_q rfl rfl rfl (q_gtr rfl rfl rfl) ?_
  refine s_q rfl rfl rfl (q_move rfl rfl) ?_
  refine s_and2 6 3 14 21 20 _ _ rfl rfl rfl rfl rfl rfl (fun h21 => by
      try simp at h21
      refine s_g rfl rfl rfl rfl rfl rfl (q_move rfl rfl) ?_
      refine s_g rfl rfl rfl rfl rfl rfl (q_move rfl rfl) ?_
      refine s_or2 3 5 16 20 19 _ _ rfl rfl rfl rfl rfl rfl (fun h20 => by
          try simp at h20
          refine s_g rfl rfl rfl rfl rfl rfl (q_move rfl rfl) ?_
          refine s_g rfl rfl rfl rfl rfl rfl (quiet_call rfl rfl rfl Try.func22 (by kernel_rfl) rfl ((fun w hw => starts_pure vq q [93] w hql (by decide) (hvq.mono hw.le)))) ?_
          refine s_g rfl rfl rfl rfl rfl rfl (q_not rfl rfl) ?_
          exact s_val rfl
        ) (wanted_g rfl rfl rfl rfl) rfl rfl rfl ?_
      exact s_val rfl
    ) (wanted_n rfl) rfl rfl rfl ?_
  refine s_done ?_
  refine n_then ?_
  refine t_cond rfl (fun hc0 => ?_) (fun hc0 => ?_)
  · skip
    have h0 : (decide ((0 : Int) < (q.length : Int)) && (fi || !startsP q [93])) = true := hc0
    rw [Bool.and_eq_true, decide_eq_true_eq] at h0
    have hq0 : 0 < q.length := by omega
    have hst : (!fi && startsP q [93]) = false := by have := h0.2; cases fi <;> simp_all
    refine t_skip ?_
    refine n_then ?_
    refine t_seq ?_
    refine t_block ?_
    refine t_seq ?_
    refine t_draw [9, 10] [] [] mo (by kernel_rfl) (fun _ _ _ _ _ h => h) ?_
    refine r_q0 0 (by kernel_rfl) rfl (Le.refl _) rfl rfl rfl (fun _ hI => q_move rfl rfl) ?_
    refine r_q0 1 (by kernel_rfl) rfl (Le.refl _) rfl rfl rfl (fun _ hI => (by first | exact q_indexAddrVN rfl Try.underlying22 ti29 rfl rfl (by omega) | exact q_indexAddrN rfl Try.underlying22 ti29 rfl rfl (Sl.shape hvq (List.length_map _)) (by omega) | exact q_indexAddrN rfl Try.underlying22 ti29 rfl rfl (⟨_, _, rfl, fun _ _ h => by cases h; rfl, fun _ h => by cases h⟩) (by omega) | exact q_indexAddrV rfl Try.underlying22 ti29 rfl rfl (by omega) | exact q_indexAddr rfl Try.underlying22 ti29 rfl rfl (Sl.shape hvq (List.length_map _)) (by omega) | exact q_indexAddr rfl Try.underlying22 ti29 rfl rfl (⟨_, _, rfl, fun _ _ h => by cases h; rfl, fun _ h => by cases h⟩) (by omega))) ?_
    refine r_q0 2 (by kernel_rfl) rfl (Le.refl _) rfl rfl rfl (fun _ hI => q_fieldAddr rfl Try.underlying29 rfl rfl ti5 rfl rfl) ?_
    refine r_q0 3 (by kernel_rfl) rfl (Le.refl _) rfl rfl rfl (fun _ hI => (by first | exact q_load_row rfl Try.underlying5 rfl rfl (by rfl) | exact q_load rfl Try.underlying5 rfl rfl (rd_imm (hb1.mono hJ)) | exact q_load rfl Try.underlying5 rfl rfl (rd_ch_b0 (i := 0) hvq (by omega)) | exact q_load rfl Try.underlying5 rfl rfl (rd_ch_b0 (i := 0) (hvq.mono hI) (by omega)) | exact q_load rfl Try.underlying5 rfl rfl (rd_ch_b0 (i := 2) hvq (by omega)) | exact q_load_vec rfl Try.underlying5 rfl rfl (stC_at (by omega)))) ?_
    refine r_q0 4 (by kernel_rfl) rfl (Le.refl _) rfl rfl rfl (fun _ hI => q_move rfl rfl) ?_
    refine r_q0 5 (by kernel_rfl) rfl (Le.refl _) rfl rfl rfl (fun _ hI => (by first | exact q_indexAddrVN rfl Try.underlying22 ti29 rfl rfl (by omega) | exact q_indexAddrN rfl Try.underlying22 ti29 rfl rfl (Sl.shape hvq (List.length_map _)) (by omega) | exact q_indexAddrN rfl Try.underlying22 ti29 rfl rfl (⟨_, _, rfl, fun _ _ h => by cases h; rfl, fun _ h => by cases h⟩) (by omega) | exact q_indexAddrV rfl Try.underlying22 ti29 rfl rfl (by omega) | exact q_indexAddr rfl Try.underlying22 ti29 rfl rfl (Sl.shape hvq (List.length_map _)) (by omega) | exact q_indexAddr rfl Try.underlying22 ti29 rfl rfl (⟨_, _, rfl, fun _ _ h => by cases h; rfl, fun _ h => by cases h⟩) (by omega))) ?_
    refine r_q0 6 (by kernel_rfl) rfl (Le.refl _) rfl rfl rfl (fun _ hI => q_fieldAddr rfl Try.underlying29 rfl rfl ti5 rfl rfl) ?_
    refine r_q0 7 (by kernel_rfl) rfl (Le.refl _) rfl rfl rfl (fun _ hI => (by first | exact q_load_row rfl Try.underlying5 rfl rfl (by rfl) | exact q_load rfl Try.underlying5 rfl rfl (rd_imm (hb1.mono hJ)) | exact q_load rfl Try.underlying5 rfl rfl (rd_ch_b0 (i := 0) hvq (by omega)) | exact q_load rfl Try.underlying5 rfl rfl (rd_ch_b0 (i := 0) (hvq.mono hI) (by omega)) | exact q_load rfl Try.underlying5 rfl rfl (rd_ch_b0 (i := 2) hvq (by omega)) | exact q_load_vec rfl Try.underlying5 rfl rfl (stC_at (by omega)))) ?_
    refine r_q0 8 (by kernel_rfl) rfl (Le.refl _) rfl rfl rfl (fun _ hI => q_build (pl := [(_, _), (_, _), (_, _)]) (cs := (memC ⟨[], (nth q 0 ch0).b, (nth q 0 ch0).b⟩).toArray) rfl Try.underlying56 ti56 ⟨rfl, ⟨_, _, ti9⟩, rfl, ⟨_, _, ti5⟩, rfl, ⟨_, _, ti5⟩, trivial⟩ rfl rfl) ?_
    refine r_e 9 (by kernel_rfl) (by kernel_rfl) rfl (Le.refl _) rfl rfl rfl (e_alloc rfl ti56 rfl) ?_
    rintro _ _ _ ⟨b5, rfl, rfl, rfl⟩
    refine ⟨Le.refl _, .inr SubC.sub, ?_⟩
    refine r_e0 10 (by kernel_rfl) (by kernel_rfl) rfl (Le.refl _) rfl rfl ((by first | exact e_store_all rfl ti56 rfl rfl rfl (by first | exact chC_ones _ | exact pcC_ones _ | exact memC_ones _ | exact memC_ones _ | simp [Value.oneCell', str, u8]) rfl | exact e_store_agg rfl ti56 rfl rfl rfl (by first | exact chC_ones _ | exact pcC_ones _ | exact memC_ones _ | exact memC_ones _ | simp [Value.oneCell', str, u8]) rfl)) ?_
    rintro _ _ _ ⟨rfl, rfl⟩
    refine ⟨Le.refl _, .inr SubC.sub, ?_⟩
    refine r_heap (H' := row b5 56 (memC ⟨[], (nth q 0 ch0).b, (nth q 0 ch0).b⟩) :: _) ?_ (fun _ h => h)
    refine r_q0 11 (by kernel_rfl) rfl (Le.refl _) rfl rfl rfl (fun _ hI => q_assign rfl rfl) ?_
    refine r_end (by kernel_rfl) ?_
    refine n_then ?_
    refine t_seq ?_
    refine t_region ?_
    refine l_q rfl rfl rfl (q_assign rfl rfl) ?_
    refine l_nil ?_
    refine n_then ?_
    refine t_seq ?_
    refine t_seq ?_
    refine t_region ?_
    refine l_e rfl rfl rfl (e_buildSliceN (vs := [_, _, _, _, _, _]) (css := [stC (nth clsNames 0 []), stC (nth clsNames 1 []), stC (nth clsNames 2 []), stC (nth clsNames 3 []), stC (nth clsNames 4 []), stC (nth clsNames 5 [])]) rfl Try.underlying58 ti9 rfl rfl rfl rfl (rfl) (by simp [stC])) ?_
    rintro _ _ _ ⟨b31, rfl, rfl, rfl⟩
    refine l_heap (H' := tvec 9 1 stC (.slice (some ⟨b31, 0, none⟩) 6 6) clsNames :: _) ?_ (fun _ h => st_rowVec h rfl (by decide))
    refine l_q rfl rfl rfl ((by first | exact q_lenV rfl Try.underlying58 rfl | exact q_len rfl Try.underlying58 rfl (Sl.lenOf hvq (List.length_map _)) | exact q_len rfl Try.underlying58 rfl (⟨_, _, rfl⟩))) ?_
    refine l_q rfl rfl rfl (q_move rfl rfl) ?_
    refine l_nil ?_
    refine n_then ?_
    refine t_block ?_
    refine t_loopE (ι := Nat × List UInt8) (fun zz => zz.1 ≤ clsNames.length ∧ zz.2 = (clsNames.take zz.1).foldl (clsStep q) []) (fun zz => clsNames.length - zz.1) (fun zz => [(33, .int .i64 (zz.1 : Int)), (7, str zz.2)]) [(3, _), (4, _), (0, _), (1, _), (21, _), (5, _), (6, _), (31, _), (32, _)] (fun zz => (II g)) (fun zz => (tvec 9 1 stC (.slice (some ⟨b31, 0, none⟩) 6 6) clsNames :: row b5 56 (memC ⟨[], (nth q 0 ch0).b, (nth q 0 ch0).b⟩) :: (F ++ G g))) (0, []) ?_ (sub_cons rfl (sub_cons rfl sub_nil)) (sub_cons rfl (sub_cons rfl (sub_cons rfl (sub_cons rfl (sub_cons rfl (sub_cons rfl (sub_cons rfl (sub_cons rfl (sub_cons rfl sub_nil))))))))) (fun _ h => subC_st h) ?_
    · try dsimp only
      exact ⟨Nat.zero_le _, rfl⟩
    rintro ⟨i, cl⟩ ⟨hi, hcl⟩
    try dsimp only at *
    have hn6 : clsNames.length = 6 := rfl
    refine t_seq ?_
    refine t_region ?_
    refine l_q rfl rfl rfl (q_lss rfl rfl rfl) ?_
    refine l_nil ?_
    refine n_then ?_
    refine t_seq ?_
    refine t_cond rfl (fun hc1 => ?_) (fun hc1 => ?_)
    · skip
      simp only [decide_eq_true_eq, decide_eq_false_iff_not] at hc1
      have hil : i < clsNames.length := by have : clsNames.length = 6 := rfl; omega
      have hcl2 := cls_len2 hil
      refine t_skip ?_
      refine n_then ?_
      refine t_seq ?_
      refine t_block ?_
      refine t_seq ?_
      refine t_region ?_
      refine l_q rfl rfl rfl ((by first | exact q_indexAddrVN rfl Try.underlying58 ti9 rfl rfl (by omega) | exact q_indexAddrN rfl Try.underlying58 ti9 rfl rfl (Sl.shape hvq (List.length_map _)) (by omega) | exact q_indexAddrN rfl Try.underlying58 ti9 rfl rfl (⟨_, _, rfl, fun _ _ h => by cases h; rfl, fun _ h => by cases h⟩) (by omega) | exact q_indexAddrV rfl Try.underlying58 ti9 rfl rfl (by omega) | exact q_indexAddr rfl Try.underlying58 ti9 rfl rfl (Sl.shape hvq (List.length_map _)) (by omega) | exact q_indexAddr rfl Try.underlying58 ti9 rfl rfl (⟨_, _, rfl, fun _ _ h => by cases h; rfl, fun _ h => by cases h⟩) (by omega))) ?_
      refine l_q rfl rfl rfl ((by first | exact q_load_row rfl Try.underlying9 rfl rfl (by rfl) | exact q_load rfl Try.underlying9 rfl rfl (rd_imm (hb1.mono hJ)) | exact q_load rfl Try.underlying9 rfl rfl (rd_ch_b0 (i := 0) hvq (by omega)) | exact q_load rfl Try.underlying9 rfl rfl (rd_ch_b0 (i := 0) (hvq.mono hI) (by omega)) | exact q_load rfl Try.underlying9 rfl rfl (rd_ch_b0 (i := 2) hvq (by omega)) | exact q_load_vec rfl Try.underlying9 rfl rfl (stC_at (by omega)))) ?_
      refine l_q rfl rfl rfl (q_assign rfl rfl) ?_
      refine l_nil ?_
      refine n_then ?_
      refine t_seq ?_
      refine t_region ?_
      refine l_q rfl rfl rfl (q_move rfl rfl) ?_
      refine l_q rfl rfl rfl (q_move rfl rfl) ?_
      refine l_q rfl rfl rfl (q_cat rfl rfl rfl (by first | omega | (simp only [List.length_append, List.length_cons, List.length_nil, List.length_take, List.length_drop]; omega))) ?_
      refine l_q rfl rfl rfl (q_cat rfl rfl rfl (by first | omega | (simp only [List.length_append, List.length_cons, List.length_nil, List.length_take, List.length_drop]; omega))) ?_
      refine l_q rfl rfl rfl (quiet_call rfl rfl rfl Try.func22 (by kernel_rfl) rfl ((fun w hw => starts_pure vq q (clsText (nth clsNames i [])) w hql (by rw [clsText_len (nth_mem (by omega))]; decide) (hvq.mono hw.le)))) ?_
      refine l_nil ?_
      refine n_then ?_
      refine t_cond rfl (fun hc2 => ?_) (fun hc2 => ?_)
      · skip
        refine t_region ?_
        refine l_q rfl rfl rfl (q_move rfl rfl) ?_
        refine l_q rfl rfl rfl (q_assign rfl rfl) ?_
        refine l_nil ?_
        refine n_block ?_
        refine n_then ?_
        refine t_region ?_
        refine l_q rfl rfl rfl (q_add64 rfl rfl rfl (by omega)) ?_
        refine l_q rfl rfl rfl (q_move rfl rfl) ?_
        refine l_nil ?_
        refine n_roundE ((i + 1, nth clsNames i [])) ?_ ?_ (sub_cons rfl (sub_cons rfl sub_nil)) (sub_cons rfl (sub_cons rfl (sub_cons rfl (sub_cons rfl (sub_cons rfl (sub_cons rfl (sub_cons rfl (sub_cons rfl (sub_cons rfl sub_nil))))))))) (fun _ h => by try dsimp only; exact subC_st h)
        · try dsimp only
          refine ⟨by show i + 1 ≤ _; omega, ?_⟩; rw [fold_take _ _ [] (by omega), ← hcl, clsStep, if_pos hc2]
        · try dsimp only
          show clsNames.length - (i + 1) < clsNames.length - i; omega
      · skip
        refine t_skip ?_
        refine n_block ?_
        refine n_then ?_
        refine t_region ?_
        refine l_q rfl rfl rfl (q_add64 rfl rfl rfl (by omega)) ?_
        refine l_q rfl rfl rfl (q_move rfl rfl) ?_
        refine l_nil ?_
        refine n_roundE ((i + 1, cl)) ?_ ?_ (sub_cons rfl (sub_cons rfl sub_nil)) (sub_cons rfl (sub_cons rfl (sub_cons rfl (sub_cons rfl (sub_cons rfl (sub_cons rfl (sub_cons rfl (sub_cons rfl (sub_cons rfl sub_nil))))))))) (fun _ h => by try dsimp only; exact subC_st h)
        · try dsimp only
          refine ⟨by show i + 1 ≤ _; omega, ?_⟩; rw [fold_take _ _ [] (by omega), ← hcl, clsStep, if_neg (by rw [hc2]; simp)]
        · try dsimp only
          show clsNames.length - (i + 1) < clsNames.length - i; omega
    · skip
      simp only [decide_eq_true_eq, decide_eq_false_iff_not] at hc1
      have hcl : cl = clsP q := by rw [hcl, List.take_of_length_le (by have : clsNames.length = 6 := rfl; omega)]; rfl
      refine t_exit ?_
      refine n_exit_then ?_
      refine n_exit_then ?_
      refine n_exit_block ?_
      refine n_then ?_
      refine t_cutE (ι := Mem × Nat) (fun zz => (zz.1, zz.2) = memP q) (fun zz => [(6, .int .i64 (zz.2 : Int))]) [(33, _), (3, _), (4, _), (0, _), (1, _), (21, _), (5, _), (31, _), (32, _), (34, _)] (fun zz => (II g)) (fun zz => (row b5 56 (memC zz.1) :: (F ++ G g))) (sub_cons rfl (sub_cons rfl (sub_cons rfl (sub_cons rfl (sub_cons rfl (sub_cons rfl (sub_cons rfl (sub_cons rfl (sub_cons rfl (sub_cons rfl sub_nil)))))))))) ?_ ?_
      · skip
        refine t_block ?_
        refine t_seq ?_
        refine t_region ?_
        refine l_q rfl rfl rfl (q_move rfl rfl) ?_
        refine l_q rfl rfl rfl (q_neq_str rfl rfl rfl) ?_
        refine l_q rfl rfl rfl (q_assign rfl rfl) ?_
        refine l_nil ?_
        refine n_then ?_
        refine t_cond rfl (fun hc3 => ?_) (fun hc3 => ?_)
        · skip
          simp only [ne_eq, decide_not, Bool.not_eq_true', Bool.not_eq_false', decide_eq_true_eq, decide_eq_false_iff_not] at hc3
          have hcll : cl.length ≤ 5 := by rw [hcl]; exact clsP_len q
          refine t_region ?_
          refine l_q rfl rfl rfl (q_move rfl rfl) ?_
          refine l_q rfl rfl rfl (q_build (pl := [(_, _), (_, _), (_, _)]) (cs := (memC ⟨cl, 0, 0⟩).toArray) rfl Try.underlying56 ti56 ⟨rfl, ⟨_, _, ti9⟩, rfl, ⟨_, _, ti5⟩, rfl, ⟨_, _, ti5⟩, trivial⟩ rfl rfl) ?_
          refine l_q rfl rfl rfl (q_move rfl rfl) ?_
          refine l_q rfl rfl rfl (q_len_str rfl Try.underlying9 rfl) ?_
          refine l_q rfl rfl rfl (q_add64 rfl rfl rfl (by omega)) ?_
          refine l_e0 rfl rfl ((by first | exact e_store_all rfl ti56 rfl rfl rfl (by first | exact chC_ones _ | exact pcC_ones _ | exact memC_ones _ | exact memC_ones _ | simp [Value.oneCell', str, u8]) rfl | exact e_store_agg rfl ti56 rfl rfl rfl (by first | exact chC_ones _ | exact pcC_ones _ | exact memC_ones _ | exact memC_ones _ | simp [Value.oneCell', str, u8]) rfl)) ?_
          rintro _ _ _ ⟨rfl, rfl⟩
          refine l_heap (H' := row b5 56 (memC ⟨cl, 0, 0⟩) :: _) ?_ (fun _ h => h)
          refine l_q rfl rfl rfl (q_assign rfl rfl) ?_
          refine l_nil ?_
          refine n_block ?_
          refine n_cut ((⟨cl, 0, 0⟩, cl.length + 4)) ?_ (sub_cons rfl sub_nil) (sub_cons rfl (sub_cons rfl (sub_cons rfl (sub_cons rfl (sub_cons rfl (sub_cons rfl (sub_cons rfl (sub_cons rfl (sub_cons rfl (sub_cons rfl sub_nil)))))))))) (fun _ h => by try dsimp only; exact subC_st h)
          · try dsimp only
            rw [hcl] at *; exact (memP_cl hc3).symm
        · skip
          simp only [ne_eq, decide_not, Bool.not_eq_true', Bool.not_eq_false', decide_eq_true_eq, decide_eq_false_iff_not] at hc3
          rw [hcl] at hc3
          have hcl : clsP q = [] := hc3
          refine t_seq ?_
          refine t_qreg ?_
          refine s_q rfl rfl rfl (q_move rfl rfl) ?_
          refine s_q rfl rfl rfl ((by first | exact q_lenV rfl Try.underlying22 rfl | exact q_len rfl Try.underlying22 rfl (Sl.lenOf hvq (List.length_map _)) | exact q_len rfl Try.underlying22 rfl (⟨_, _, rfl⟩))) ?_
          refine s_q rfl rfl rfl (q_gtr rfl rfl rfl) ?_
          refine s_q rfl rfl rfl (q_move rfl rfl) ?_
          refine s_and2 3 3 56 60 59 _ _ rfl rfl rfl rfl rfl rfl (fun h60 => by
              try simp at h60
              refine s_g rfl rfl rfl rfl rfl rfl (q_move rfl rfl) ?_
              refine s_g rfl rfl rfl rfl rfl rfl ((by first | exact q_slice_from rfl Try.underlying22 ti29 rfl rfl (Sl.lenOf hvq (List.length_map _)) (by omega) | exact q_slice_from rfl Try.underlying22 ti29 rfl rfl (⟨_, _, rfl⟩) (by omega))) ?_
              refine s_g rfl rfl rfl rfl rfl rfl (quiet_call rfl rfl rfl Try.func22 (by kernel_rfl) rfl ((fun w hw => starts_pure _ (q.drop 1) [45] w (by rw [List.length_drop]; omega) (by decide) ((hvq.dropM rfl (show 1 ≤ q.length by omega)).mono hw.le)))) ?_
              exact s_val rfl
            ) (wanted_n rfl) rfl rfl rfl ?_
          refine s_q rfl rfl rfl (q_move rfl rfl) ?_
          refine s_and2 4 8 61 66 65 _ _ rfl rfl rfl rfl rfl rfl (fun h66 => by
              try simp at h66
              refine s_g rfl rfl rfl rfl rfl rfl (q_move rfl rfl) ?_
              refine s_g rfl rfl rfl rfl rfl rfl ((by first | exact q_slice_from rfl Try.underlying22 ti29 rfl rfl (Sl.lenOf hvq (List.length_map _)) (by omega) | exact q_slice_from rfl Try.underlying22 ti29 rfl rfl (⟨_, _, rfl⟩) (by omega))) ?_
              refine s_g rfl rfl rfl rfl rfl rfl (quiet_call rfl rfl rfl Try.func22 (by kernel_rfl) rfl ((fun w hw => starts_pure _ (q.drop 2) [93] w (by rw [List.length_drop]; omega) (by decide) ((hvq.dropM rfl (show 2 ≤ q.length by omega)).mono hw.le)))) ?_
              refine s_g rfl rfl rfl rfl rfl rfl (q_not rfl rfl) ?_
              exact s_val rfl
            ) (wanted_n rfl) rfl rfl rfl ?_
          refine s_q rfl rfl rfl (q_assign rfl rfl) ?_
          refine s_done ?_
          refine n_then ?_
          refine t_cond rfl (fun hc4 => ?_) (fun hc4 => ?_)
          · skip
            have h4 : (decide ((2 : Int) < (q.length : Int)) && startsP (q.drop 1) [45] && !startsP (q.drop 2) [93]) = true := hc4
            have h42 : 2 < q.length := by simp only [Bool.and_eq_true, decide_eq_true_eq] at h4; omega
            refine t_region ?_
            refine l_q rfl rfl rfl (q_move rfl rfl) ?_
            refine l_q rfl rfl rfl ((by first | exact q_indexAddrVN rfl Try.underlying22 ti29 rfl rfl (by omega) | exact q_indexAddrN rfl Try.underlying22 ti29 rfl rfl (Sl.shape hvq (List.length_map _)) (by omega) | exact q_indexAddrN rfl Try.underlying22 ti29 rfl rfl (⟨_, _, rfl, fun _ _ h => by cases h; rfl, fun _ h => by cases h⟩) (by omega) | exact q_indexAddrV rfl Try.underlying22 ti29 rfl rfl (by omega) | exact q_indexAddr rfl Try.underlying22 ti29 rfl rfl (Sl.shape hvq (List.length_map _)) (by omega) | exact q_indexAddr rfl Try.underlying22 ti29 rfl rfl (⟨_, _, rfl, fun _ _ h => by cases h; rfl, fun _ h => by cases h⟩) (by omega))) ?_
            refine l_q rfl rfl rfl (q_fieldAddr rfl Try.underlying29 rfl rfl ti5 rfl rfl) ?_
            refine l_q rfl rfl rfl ((by first | exact q_load_row rfl Try.underlying5 rfl rfl (by rfl) | exact q_load rfl Try.underlying5 rfl rfl (rd_imm (hb1.mono hJ)) | exact q_load rfl Try.underlying5 rfl rfl (rd_ch_b0 (i := 0) hvq (by omega)) | exact q_load rfl Try.underlying5 rfl rfl (rd_ch_b0 (i := 0) (hvq.mono hI) (by omega)) | exact q_load rfl Try.underlying5 rfl rfl (rd_ch_b0 (i := 2) hvq (by omega)) | exact q_load_vec rfl Try.underlying5 rfl rfl (stC_at (by omega)))) ?_
            refine l_q rfl rfl rfl (q_fieldAddr rfl Try.underlying56 rfl rfl ti5 rfl rfl) ?_
            refine l_e0 rfl rfl (e_storeS rfl ti5 rfl rfl (by first | exact ⟨rfl, rfl⟩ | assumption) rfl (by first | (simp only [List.set_cons_succ, List.set_cons_zero]; rfl) | rfl)) ?_
            rintro _ _ _ ⟨rfl, rfl⟩
            refine l_heap (H' := row b5 56 (memC ⟨[], (nth q 0 ch0).b, (nth q 2 ch0).b⟩) :: _) ?_ (fun _ h => h)
            refine l_q rfl rfl rfl (q_assign rfl rfl) ?_
            refine l_nil ?_
            refine n_block ?_
            refine n_cut ((⟨[], (nth q 0 ch0).b, (nth q 2 ch0).b⟩, 3)) ?_ (sub_cons rfl sub_nil) (sub_cons rfl (sub_cons rfl (sub_cons rfl (sub_cons rfl (sub_cons rfl (sub_cons rfl (sub_cons rfl (sub_cons rfl (sub_cons rfl (sub_cons rfl sub_nil)))))))))) (fun _ h => by try dsimp only; exact subC_st h)
            · try dsimp only
              exact (memP_rg hcl hc4).symm
          · skip
            refine t_skip ?_
            refine n_block ?_
            refine n_cut ((⟨[], (nth q 0 ch0).b, (nth q 0 ch0).b⟩, 1)) ?_ (sub_cons rfl sub_nil) (sub_cons rfl (sub_cons rfl (sub_cons rfl (sub_cons rfl (sub_cons rfl (sub_cons rfl (sub_cons rfl (sub_cons rfl (sub_cons rfl (sub_cons rfl sub_nil)))))))))) (fun _ h => by try dsimp only; exact subC_st h)
            · try dsimp only
              exact (memP_on hcl hc4).symm
      rintro ⟨m, k⟩ hmk
      try dsimp only at *
      have hqn : q ≠ [] := List.ne_nil_of_length_pos hq0
      have hk1 : k ≤ q.length := by have := memP_len hqn; rw [← hmk] at this; exact this
      have hk2 : 1 ≤ k := by have := memP_pos q; rw [← hmk] at this; exact this
      have hvr := hvq.dropM (l := k) rfl hk1
      rw [memVs_step hqn fi hst, ← hmk] at hdr
      refine t_seq ?_
      refine t_region ?_
      refine l_q rfl rfl rfl (q_move rfl rfl) ?_
      refine l_q rfl rfl rfl (q_move rfl rfl) ?_
      refine l_q rfl rfl rfl ((by first | exact q_slice_from rfl Try.underlying22 ti29 rfl rfl (Sl.lenOf hvq (List.length_map _)) (by omega) | exact q_slice_from rfl Try.underlying22 ti29 rfl rfl (⟨_, _, rfl⟩) (by omega))) ?_
      refine l_q rfl rfl rfl (q_assign rfl rfl) ?_
      refine l_nil ?_
      refine n_then ?_
      refine t_seq ?_
      refine t_region ?_
      refine l_q rfl rfl rfl (q_move rfl rfl) ?_
      refine l_q rfl rfl rfl (q_load_rowA rfl Try.underlying56 ti56 rfl rfl rfl) ?_
      refine l_q rfl rfl rfl (q_move rfl rfl) ?_
      refine l_yield (i := nn) g (wanted_n rfl) rfl rfl rfl rfl rfl hY ((drop_step hdr).2.1) hcd rfl (fun g hcd hle => ?_) (fun g hcx hle => ?_)
      · skip
        have hvr := hvr.mono hle
        have hJ := hJ.trans hle
        refine l_q rfl rfl rfl (q_not rfl rfl) ?_
        refine l_nil ?_
        refine n_then ?_
        refine t_cond rfl (fun hc5 => ?_) (fun hc5 => ?_)
        · skip
          try simp at hc5
        · skip
          try simp at hc5
          refine t_skip ?_
          refine n_block ?_
          refine n_then ?_
          refine t_region ?_
          refine l_q rfl rfl rfl (q_assign rfl rfl) ?_
          refine l_nil ?_
          refine n_roundE ((q.drop k, cutV 2 k q.length vq, false, nn + 1, g)) ?_ ?_ (sub_cons rfl (sub_cons rfl sub_nil)) (sub_cons rfl (sub_cons rfl sub_nil)) (fun _ h => by try dsimp only; exact subC_st h)
          · try dsimp only
            exact ⟨(drop_step hdr).1, hcd, hJ, (drop_step hdr).2.2, hvr, by rw [List.length_drop]; omega⟩
          · try dsimp only
            show (q.drop k).length < q.length; rw [List.length_drop]; omega
      · skip
        have hJ := hJ.trans hle
        refine l_q rfl rfl rfl (q_not rfl rfl) ?_
        refine l_nil ?_
        refine n_then ?_
        refine t_cond rfl (fun hc6 => ?_) (fun hc6 => ?_)
        · skip
          try simp at hc6
          refine t_ret ?_
          refine n_ret_block ?_
          refine n_ret_then ?_
          refine n_ret_then ?_
          refine n_ret_block ?_
          refine n_ret0 rfl (fun w' hw => ?_)
          -- leaf 0
          exact ⟨_, rfl, g, .inr ⟨nn + 1, (drop_step hdr).1, hcx⟩, hJ, hw0.rebase (subC_st hw)⟩
        · skip
          try simp at hc6
  · skip
    have h0 : (decide ((0 : Int) < (q.length : Int)) && (fi || !startsP q [93])) = false := hc0
    have hend : memsG q fi = [] := by
      by_cases hqn : q = []
      · subst hqn; rfl
      · have := List.length_pos_iff.2 hqn
        rw [memsG_eq hqn, if_pos]
        have h1 : decide ((0 : Int) < (q.length : Int)) = true := by rw [decide_eq_true_eq]; omega
        rw [h1, Bool.true_and] at h0
        cases fi <;> simp_all
    rw [hend] at hdr
    refine t_exit ?_
    refine n_exit_then ?_
    refine n_exit_then ?_
    refine n_exit_block ?_
    refine n_end0 rfl (fun w' hw => ?_)
    -- leaf 1
    exact ⟨_, rfl, g, .inl (by rw [← drop_end hdr hn]; exact hcd), hJ, hw0.rebase (subC_st hw)⟩
end Go.Tri
