/-
  The reference: one element.
-/
import Derived.Test.YtlhjbemcapnmjaaPA7
namespace Go.Tri
open Go.Proofs Go.RowKit
theorem rg_iff {p : List Ch} {i : Nat} (h : clsP (p.drop i) = []) (b : Bool) (hb : (isP p (i + 1) 45 && decide (((i : Int) + 2) < (p.length : Int)) && !isP p (i + 2) 93) = b) :
    memP (p.drop i) = if b then (⟨[], (nth p i ch0).b, (nth p (i + 2) ch0).b⟩, 3) else (⟨[], (nth p i ch0).b, (nth p i ch0).b⟩, 1) := by
  have e1 : (decide ((2 : Int) < ((p.drop i).length : Int)) && startsP ((p.drop i).drop 1) [45] && !startsP ((p.drop i).drop 2) [93]) = b := by
    rw [← hb, isP_starts, isP_starts, List.drop_drop, List.drop_drop, Bool.and_comm (decide _) (startsP _ _), List.length_drop]
    congr 2
    exact decide_eq_decide.2 (by omega)
  have e0 : nth (p.drop i) 0 ch0 = nth p i ch0 := drop_nth2 p i 0
  have e2 : nth (p.drop i) 2 ch0 = nth p (i + 2) ch0 := drop_nth2 p i 2
  cases b
  · rw [memP_on h e1, e0]; rfl
  · rw [memP_rg h e1, e0, e2]; rfl
def RBrR (p : List Ch) (i : Nat) (c : UInt8) (r : Value) : Prop := ∃ (n : Nat) (f : Bool), r = .tuple #[.int .i64 (n : Int), .bool f] ∧ ((0 < n ∧ i + n ≤ p.length ∧ bracketP (p.drop i) c = some (f, p.drop (i + n))) ∨ (n = 0 ∧ bracketP (p.drop i) c = none))
theorem bracketP_at {p : List Ch} {i i0 : Nat} {c : UInt8} (h : i0 = if startsP (p.drop (i + 1)) [33] then i + 2 else i + 1) : bracketP (p.drop i) c = (brG (p.drop i0) true c false).map fun x => (x.1 != startsP (p.drop (i + 1)) [33], x.2) := by
  unfold bracketP
  rw [List.drop_drop, List.drop_drop]
  cases hs : startsP (p.drop (i + 1)) [33]
  · rw [hs, if_neg (by simp)] at h; subst h; rfl
  · rw [hs, if_pos rfl] at h; subst h; rfl
theorem boC_at {l : List Bool} {i : Nat} (h : i < l.length) : ((l.map fun b => [Value.bool b]).flatten)[i * 1]? = some (.bool (nth l i false)) := by
  have := flat_at (f := fun b => [Value.bool b]) (sz := 1) (fun _ => rfl) (map_getD l _ false h) (j := 0) (u := .bool (nth l i false)) rfl
  exact this
set_option maxRecDepth 10000 in
theorem is_pure (v : Value) (p : List Ch) (i : Nat) (b : UInt8) (w : World) (hp : p.length ≤ 4611686018427387904) (hi : i ≤ 9000000000000000000) (hv : Sl (look w) 2 v (p.map chC)) : Pure Try.prog 24 [v, .int .i64 (i : Int), u8 b] w (.bool (isP p i b)) := by
  refine enter Try.func24 rfl Try.ntmps24 rfl (St.start w (look w) (Le.refl _)) ?_
  refine t_seq ?_
  refine t_region ?_
  refine l_q rfl rfl rfl (q_assign rfl rfl) ?_
  refine l_nil ?_
  refine n_then ?_
  refine t_seq ?_
  refine t_qreg ?_
  refine s_q rfl rfl rfl (q_move rfl rfl) ?_
  refine s_q rfl rfl rfl (q_move rfl rfl) ?_
  refine s_q rfl rfl rfl ((by first | exact q_lenV rfl Try.underlying22 rfl | exact q_len rfl Try.underlying22 rfl (Sl.lenOf hv (List.length_map _)))) ?_
  refine s_q rfl rfl rfl (q_lss rfl rfl rfl) ?_
  refine s_q rfl rfl rfl (q_move rfl rfl) ?_
  refine s_and2 7 4 11 19 18 _ _ rfl rfl rfl rfl rfl rfl (fun h19 => by
      try simp at h19
      have hil := h19
      refine s_g rfl rfl rfl rfl rfl rfl (q_move rfl rfl) ?_
      refine s_g rfl rfl rfl rfl rfl rfl (q_move rfl rfl) ?_
      refine s_g rfl rfl rfl rfl rfl rfl ((by first | exact q_indexAddrVN rfl Try.underlying22 ti29 rfl rfl (by omega) | exact q_indexAddrN rfl Try.underlying22 ti29 rfl rfl (Sl.shape hv (List.length_map _)) (by omega) | exact q_indexAddrV rfl Try.underlying22 ti29 rfl rfl (by omega) | exact q_indexAddr rfl Try.underlying22 ti29 rfl rfl (Sl.shape hv (List.length_map _)) (by omega))) ?_
      refine s_g rfl rfl rfl rfl rfl rfl (q_fieldAddr rfl Try.underlying29 rfl rfl ti5 rfl rfl) ?_
      refine s_g rfl rfl rfl rfl rfl rfl ((by first | exact q_load_row rfl Try.underlying5 rfl rfl (by rfl) | exact q_load rfl Try.underlying5 rfl rfl (rd_ch_b0 (i := i) hv (by omega)) | exact q_load rfl Try.underlying5 rfl rfl (rd_ch_q0 (i := i) hv (by omega)))) ?_
      refine s_g rfl rfl rfl rfl rfl rfl (q_move rfl rfl) ?_
      refine s_g rfl rfl rfl rfl rfl rfl (q_eql_u8 rfl rfl rfl) ?_
      exact s_val rfl
    ) (wanted_n rfl) rfl rfl rfl ?_
  refine s_q rfl rfl rfl (q_move rfl rfl) ?_
  refine s_and2 6 13 20 27 26 _ _ rfl rfl rfl rfl rfl rfl (fun h27 => by
      try simp at h27
      have hil := h27.1
      refine s_g rfl rfl rfl rfl rfl rfl (q_move rfl rfl) ?_
      refine s_g rfl rfl rfl rfl rfl rfl (q_move rfl rfl) ?_
      refine s_g rfl rfl rfl rfl rfl rfl ((by first | exact q_indexAddrVN rfl Try.underlying22 ti29 rfl rfl (by omega) | exact q_indexAddrN rfl Try.underlying22 ti29 rfl rfl (Sl.shape hv (List.length_map _)) (by omega) | exact q_indexAddrV rfl Try.underlying22 ti29 rfl rfl (by omega) | exact q_indexAddr rfl Try.underlying22 ti29 rfl rfl (Sl.shape hv (List.length_map _)) (by omega))) ?_
      refine s_g rfl rfl rfl rfl rfl rfl (q_fieldAddr rfl Try.underlying29 rfl rfl ti4 rfl rfl) ?_
      refine s_g rfl rfl rfl rfl rfl rfl ((by first | exact q_load_row rfl Try.underlying4 rfl rfl (by rfl) | exact q_load rfl Try.underlying4 rfl rfl (rd_ch_b0 (i := i) hv (by omega)) | exact q_load rfl Try.underlying4 rfl rfl (rd_ch_q0 (i := i) hv (by omega)))) ?_
      refine s_g rfl rfl rfl rfl rfl rfl (q_not rfl rfl) ?_
      exact s_val rfl
    ) (wanted_n rfl) rfl rfl rfl ?_
  refine s_q rfl rfl rfl (q_assign rfl rfl) ?_
  refine s_done ?_
  refine n_then ?_
  refine t_ret ?_
  refine n_ret1 rfl rfl (fun w' hw => ?_)
  -- leaf 0
  exact ⟨rfl, hw.below⟩
set_option maxRecDepth 10000 in
theorem class_pure (v : Value) (p : List Ch) (i : Nat) (c : UInt8) (w : World) (hp : p.length ≤ 4611686018427387904) (hi : i ≤ p.length) (hv : Sl (look w) 2 v (p.map chC)) : Pure Try.prog 31 [v, .int .i64 (i : Int), u8 c] w (.tuple #[.int .i64 (clsN (p.drop i) : Int), .bool (clsH (p.drop i) c)]) := by
  refine enter Try.func31 rfl Try.ntmps31 rfl (St.start w (look w) (Le.refl _)) ?_
  refine t_seq ?_
  refine t_region ?_
  refine l_q rfl rfl rfl (q_assign rfl rfl) ?_
  refine l_q rfl rfl rfl (q_assign rfl rfl) ?_
  refine l_nil ?_
  refine n_then ?_
  refine t_seq ?_
  refine t_qreg ?_
  refine s_q rfl rfl rfl (q_move rfl rfl) ?_
  refine s_q rfl rfl rfl (q_geq rfl rfl rfl) ?_
  refine s_q rfl rfl rfl (q_move rfl rfl) ?_
  refine s_and2 2 2 19 22 21 _ _ rfl rfl rfl rfl rfl rfl (fun h22 => by
      try simp at h22
      refine s_g rfl rfl rfl rfl rfl rfl (q_move rfl rfl) ?_
      refine s_g rfl rfl rfl rfl rfl rfl (q_leq rfl rfl rfl) ?_
      exact s_val rfl
    ) (wanted_n rfl) rfl rfl rfl ?_
  refine s_q rfl rfl rfl (q_assign rfl rfl) ?_
  refine s_done ?_
  refine n_then ?_
  refine t_seq ?_
  refine t_qreg ?_
  refine s_q rfl rfl rfl (q_move rfl rfl) ?_
  refine s_q rfl rfl rfl (q_geq rfl rfl rfl) ?_
  refine s_q rfl rfl rfl (q_move rfl rfl) ?_
  refine s_and2 2 2 25 28 27 _ _ rfl rfl rfl rfl rfl rfl (fun h28 => by
      try simp at h28
      refine s_g rfl rfl rfl rfl rfl rfl (q_move rfl rfl) ?_
      refine s_g rfl rfl rfl rfl rfl rfl (q_leq rfl rfl rfl) ?_
      exact s_val rfl
    ) (wanted_n rfl) rfl rfl rfl ?_
  refine s_q rfl rfl rfl (q_assign rfl rfl) ?_
  refine s_done ?_
  refine n_then ?_
  refine t_seq ?_
  refine t_qreg ?_
  refine s_q rfl rfl rfl (q_move rfl rfl) ?_
  refine s_q rfl rfl rfl (q_geq rfl rfl rfl) ?_
  refine s_q rfl rfl rfl (q_move rfl rfl) ?_
  refine s_and2 2 2 31 34 33 _ _ rfl rfl rfl rfl rfl rfl (fun h34 => by
      try simp at h34
      refine s_g rfl rfl rfl rfl rfl rfl (q_move rfl rfl) ?_
      refine s_g rfl rfl rfl rfl rfl rfl (q_leq rfl rfl rfl) ?_
      exact s_val rfl
    ) (wanted_n rfl) rfl rfl rfl ?_
  refine s_q rfl rfl rfl (q_assign rfl rfl) ?_
  refine s_done ?_
  refine n_then ?_
  refine t_seq ?_
  refine t_region ?_
  refine l_e rfl rfl rfl (e_buildSliceN (vs := [_, _, _, _, _, _]) (css := [stC (nth clsNames 0 []), stC (nth clsNames 1 []), stC (nth clsNames 2 []), stC (nth clsNames 3 []), stC (nth clsNames 4 []), stC (nth clsNames 5 [])]) rfl Try.underlying58 ti9 rfl rfl rfl rfl (rfl) (by simp [stC])) ?_
  rintro _ _ _ ⟨b35, rfl, rfl, rfl⟩
  refine l_heap (H' := tvec 9 1 stC (.slice (some ⟨b35, 0, none⟩) 6 6) clsNames :: _) ?_ (fun _ h => st_rowVec h rfl (by decide))
  refine l_q rfl rfl rfl (q_assign rfl rfl) ?_
  refine l_nil ?_
  refine n_then ?_
  refine t_seq ?_
  refine t_region ?_
  refine l_quietHead 4 ?_
  refine s_q rfl rfl rfl (q_move rfl rfl) ?_
  refine s_q rfl rfl rfl (q_move rfl rfl) ?_
  refine s_or2 1 1 37 39 38 _ _ rfl rfl rfl rfl rfl rfl (fun h39 => by
      try simp at h39
      refine s_g rfl rfl rfl rfl rfl rfl (q_move rfl rfl) ?_
      exact s_val rfl
    ) (wanted_n rfl) rfl rfl rfl ?_
  refine s_list ?_
  refine l_quietHead 5 ?_
  refine s_q rfl rfl rfl (q_move rfl rfl) ?_
  refine s_q rfl rfl rfl (q_move rfl rfl) ?_
  refine s_q rfl rfl rfl (q_move rfl rfl) ?_
  refine s_or2 1 6 42 44 43 _ _ rfl rfl rfl rfl rfl rfl (fun h44 => by
      try simp at h44
      refine s_g rfl rfl rfl rfl rfl rfl (q_move rfl rfl) ?_
      exact s_val rfl
    ) (wanted_n rfl) rfl rfl rfl ?_
  refine s_list ?_
  refine l_quietHead 3 ?_
  refine s_q rfl rfl rfl (q_move rfl rfl) ?_
  refine s_or2 1 9 45 47 46 _ _ rfl rfl rfl rfl rfl rfl (fun h47 => by
      try simp at h47
      refine s_g rfl rfl rfl rfl rfl rfl (q_move rfl rfl) ?_
      exact s_val rfl
    ) (wanted_n rfl) rfl rfl rfl ?_
  refine s_list ?_
  refine l_quietHead 8 ?_
  refine s_q rfl rfl rfl (q_move rfl rfl) ?_
  refine s_q rfl rfl rfl (q_move rfl rfl) ?_
  refine s_q rfl rfl rfl (q_move rfl rfl) ?_
  refine s_q rfl rfl rfl (q_geq rfl rfl rfl) ?_
  refine s_q rfl rfl rfl (q_move rfl rfl) ?_
  refine s_and2 2 16 52 55 54 _ _ rfl rfl rfl rfl rfl rfl (fun h55 => by
      try simp at h55
      refine s_g rfl rfl rfl rfl rfl rfl (q_move rfl rfl) ?_
      refine s_g rfl rfl rfl rfl rfl rfl (q_leq rfl rfl rfl) ?_
      exact s_val rfl
    ) (wanted_n rfl) rfl rfl rfl ?_
  refine s_list ?_
  refine l_quietHead 4 ?_
  refine s_q rfl rfl rfl (q_move rfl rfl) ?_
  refine s_or2 2 20 56 59 58 _ _ rfl rfl rfl rfl rfl rfl (fun h59 => by
      try simp at h59
      refine s_g rfl rfl rfl rfl rfl rfl (q_move rfl rfl) ?_
      refine s_g rfl rfl rfl rfl rfl rfl (q_eql_u8c rfl rfl rfl rfl) ?_
      exact s_val rfl
    ) (wanted_n rfl) rfl rfl rfl ?_
  refine s_list ?_
  refine l_e rfl rfl rfl (e_buildSliceN (vs := [_, _, _, _, _, _]) (css := [[Value.bool (nth (holdsL c) 0 false)], [Value.bool (nth (holdsL c) 1 false)], [Value.bool (nth (holdsL c) 2 false)], [Value.bool (nth (holdsL c) 3 false)], [Value.bool (nth (holdsL c) 4 false)], [Value.bool (nth (holdsL c) 5 false)]]) rfl Try.underlying59 ti4 rfl rfl rfl rfl (rfl) (by simp [stC])) ?_
  rintro _ _ _ ⟨b60, rfl, rfl, rfl⟩
  refine l_heap (H' := tvec 4 1 (fun b => [Value.bool b]) (.slice (some ⟨b60, 0, none⟩) 6 6) (holdsL c) :: _) ?_ (fun _ h => st_rowVec h rfl (by decide))
  refine l_q rfl rfl rfl (q_assign rfl rfl) ?_
  refine l_nil ?_
  refine n_then ?_
  refine t_seq ?_
  refine t_seq ?_
  refine t_region ?_
  refine l_q rfl rfl rfl (q_assign rfl rfl) ?_
  refine l_nil ?_
  refine n_then ?_
  refine t_block ?_
  refine t_loopE (ι := Nat) (fun zz => zz ≤ 6 ∧ ∀ j, j < zz → startsP (p.drop i) (clsText (nth clsNames j [])) = false) (fun zz => 6 - zz) (fun zz => [(13, .int .i64 (zz : Int))]) [(0, _), (1, _), (2, _), (8, _), (9, _), (10, _), (11, _), (12, _)] (fun zz => look w) (fun zz => [tvec 4 1 (fun b => [Value.bool b]) (.slice (some ⟨b60, 0, none⟩) 6 6) (holdsL c), tvec 9 1 stC (.slice (some ⟨b35, 0, none⟩) 6 6) clsNames]) 0 ?_ (sub_cons rfl sub_nil) (sub_cons rfl (sub_cons rfl (sub_cons rfl (sub_cons rfl (sub_cons rfl (sub_cons rfl (sub_cons rfl (sub_cons rfl sub_nil)))))))) (fun _ h => subC_st h) ?_
  · try dsimp only
    exact ⟨Nat.zero_le _, fun j hj => absurd hj (Nat.not_lt_zero j)⟩
  rintro k ⟨hk, hno⟩
  try dsimp only at *
  have hn6 : clsNames.length = 6 := rfl
  refine t_seq ?_
  refine t_seq ?_
  refine t_region ?_
  refine l_q rfl rfl rfl (q_move rfl rfl) ?_
  refine l_q rfl rfl rfl (q_move rfl rfl) ?_
  refine l_q rfl rfl rfl ((by first | exact q_lenV rfl Try.underlying58 rfl | exact q_len rfl Try.underlying58 rfl (⟨_, _, rfl⟩))) ?_
  refine l_q rfl rfl rfl (q_lss rfl rfl rfl) ?_
  refine l_nil ?_
  refine n_then ?_
  refine t_cond rfl (fun hc0 => ?_) (fun hc0 => ?_)
  · skip
    try simp at hc0
    have hk6 : k < 6 := by omega
    have hcl := clsText_len (nth_mem (show k < clsNames.length from hk6) (d := []))
    have hcl2 := cls_len2 (show k < clsNames.length from hk6)
    refine t_skip ?_
    refine n_then ?_
    refine t_seq ?_
    refine t_block ?_
    refine t_seq ?_
    refine t_region ?_
    refine l_q rfl rfl rfl (q_move rfl rfl) ?_
    refine l_q rfl rfl rfl (q_move rfl rfl) ?_
    refine l_q rfl rfl rfl ((by first | exact q_indexAddrVN rfl Try.underlying58 ti9 rfl rfl (by omega) | exact q_indexAddrN rfl Try.underlying58 ti9 rfl rfl (⟨_, _, rfl, fun _ _ h => by cases h; rfl, fun _ h => by cases h⟩) (by omega) | exact q_indexAddrV rfl Try.underlying58 ti9 rfl rfl (by omega) | exact q_indexAddr rfl Try.underlying58 ti9 rfl rfl (⟨_, _, rfl, fun _ _ h => by cases h; rfl, fun _ h => by cases h⟩) (by omega))) ?_
    refine l_q rfl rfl rfl ((by first | exact q_load_row rfl Try.underlying9 rfl rfl (by rfl) | exact q_load_vec rfl Try.underlying9 rfl rfl (stC_at (by omega)) | exact q_load_vec rfl Try.underlying9 rfl rfl (boC_at (by rw [show (holdsL c).length = 6 from rfl]; omega)))) ?_
    refine l_q rfl rfl rfl (q_cat rfl rfl rfl (by first | omega | (simp only [List.length_append, List.length_cons, List.length_nil, List.length_take, List.length_drop]; omega))) ?_
    refine l_q rfl rfl rfl (q_cat rfl rfl rfl (by first | omega | (simp only [List.length_append, List.length_cons, List.length_nil, List.length_take, List.length_drop]; omega))) ?_
    refine l_q rfl rfl rfl (q_assign rfl rfl) ?_
    refine l_nil ?_
    refine n_then ?_
    refine t_seq ?_
    refine t_region ?_
    refine l_q rfl rfl rfl (q_assign rfl rfl) ?_
    refine l_nil ?_
    refine n_then ?_
    refine t_seq ?_
    refine t_seq ?_
    refine t_region ?_
    refine l_q rfl rfl rfl (q_assign rfl rfl) ?_
    refine l_nil ?_
    refine n_then ?_
    refine t_block ?_
    refine t_loopE (ι := Nat) (fun zz => zz ≤ 9) (fun zz => 9 - zz) (fun zz => [(16, .int .i64 (zz : Int)), (15, .bool (isAll p i (clsText (nth clsNames k [])) zz))]) [(13, _), (0, _), (1, _), (2, _), (8, _), (9, _), (10, _), (11, _), (12, _), (64, _), (14, _)] (fun zz => look w) (fun zz => [tvec 4 1 (fun b => [Value.bool b]) (.slice (some ⟨b60, 0, none⟩) 6 6) (holdsL c), tvec 9 1 stC (.slice (some ⟨b35, 0, none⟩) 6 6) clsNames]) 0 ?_ (sub_cons rfl (sub_cons rfl sub_nil)) (sub_cons rfl (sub_cons rfl (sub_cons rfl (sub_cons rfl (sub_cons rfl (sub_cons rfl (sub_cons rfl (sub_cons rfl (sub_cons rfl (sub_cons rfl (sub_cons rfl sub_nil))))))))))) (fun _ h => subC_st h) ?_
    · try dsimp only
      omega
    rintro m hm
    try dsimp only at *
    refine t_seq ?_
    refine t_seq ?_
    refine t_region ?_
    refine l_q rfl rfl rfl (q_move rfl rfl) ?_
    refine l_q rfl rfl rfl (q_move rfl rfl) ?_
    refine l_q rfl rfl rfl (q_len_str rfl Try.underlying9 rfl) ?_
    refine l_q rfl rfl rfl (q_lss rfl rfl rfl) ?_
    refine l_nil ?_
    refine n_then ?_
    refine t_cond rfl (fun hc1 => ?_) (fun hc1 => ?_)
    · skip
      simp only [decide_eq_true_eq, decide_eq_false_iff_not] at hc1
      have hm9 : m < 9 := by simp [hcl2] at hc1; omega
      refine t_skip ?_
      refine n_then ?_
      refine t_seq ?_
      refine t_block ?_
      refine t_qreg ?_
      refine s_q rfl rfl rfl (q_move rfl rfl) ?_
      refine s_q rfl rfl rfl (q_move rfl rfl) ?_
      refine s_and2 8 1 80 89 88 _ _ rfl rfl rfl rfl rfl rfl (fun h89 => by
          try simp at h89
          refine s_g rfl rfl rfl rfl rfl rfl (q_move rfl rfl) ?_
          refine s_g rfl rfl rfl rfl rfl rfl (q_move rfl rfl) ?_
          refine s_g rfl rfl rfl rfl rfl rfl (q_move rfl rfl) ?_
          refine s_g rfl rfl rfl rfl rfl rfl (q_add64 rfl rfl rfl (by omega)) ?_
          refine s_g rfl rfl rfl rfl rfl rfl (q_move rfl rfl) ?_
          refine s_g rfl rfl rfl rfl rfl rfl (q_move rfl rfl) ?_
          refine s_g rfl rfl rfl rfl rfl rfl ((by first | exact q_index_strN rfl Try.underlying9 rfl rfl (by omega) | exact q_index_str rfl Try.underlying9 rfl rfl (by omega))) ?_
          refine s_g rfl rfl rfl rfl rfl rfl (quiet_call rfl rfl rfl Try.func24 (by kernel_rfl) rfl ((fun w hw => is_pure v p (i + m) (nth (clsText (nth clsNames k [])) m 0) w hp (by omega) (hv.mono (Le.of_st hw))))) ?_
          exact s_val rfl
        ) (wanted_n rfl) rfl rfl rfl ?_
      refine s_q rfl rfl rfl (q_assign rfl rfl) ?_
      refine s_done ?_
      refine n_block ?_
      refine n_then ?_
      refine t_region ?_
      refine l_q rfl rfl rfl (q_move rfl rfl) ?_
      refine l_q rfl rfl rfl (q_add64 rfl rfl rfl (by omega)) ?_
      refine l_q rfl rfl rfl (q_assign rfl rfl) ?_
      refine l_nil ?_
      refine n_roundE (m + 1) ?_ ?_ (sub_cons rfl (sub_cons' rfl (by rw [isAll_snoc]) (sub_nil))) (sub_cons rfl (sub_cons rfl (sub_cons rfl (sub_cons rfl (sub_cons rfl (sub_cons rfl (sub_cons rfl (sub_cons rfl (sub_cons rfl (sub_cons rfl (sub_cons rfl sub_nil))))))))))) (fun _ h => by try dsimp only; exact subC_st h)
      · try dsimp only
        omega
      · try dsimp only
        omega
    · skip
      simp only [decide_eq_true_eq, decide_eq_false_iff_not] at hc1
      have hm9 : m = 9 := by simp [hcl2] at hc1; omega
      have hall : isAll p i (clsText (nth clsNames k [])) m = startsP (p.drop i) (clsText (nth clsNames k [])) := by rw [hm9, ← hcl]; exact isAll_starts _ _ _
      refine t_exit ?_
      refine n_exit_then ?_
      refine n_exit_then ?_
      refine n_exit_block ?_
      refine n_then ?_
      refine t_seq ?_
      refine t_region ?_
      refine l_q rfl rfl rfl (q_move rfl rfl) ?_
      refine l_nil ?_
      refine n_then ?_
      refine t_cond rfl (fun hc2 => ?_) (fun hc2 => ?_)
      · skip
        refine t_seq ?_
        refine t_qdraw mo (by kernel_rfl) (fun _ _ _ _ _ h => h) ?_
        refine s_q rfl rfl rfl (q_move rfl rfl) ?_
        refine s_q rfl rfl rfl (q_len_str rfl Try.underlying9 rfl) ?_
        refine s_q rfl rfl rfl (q_move rfl rfl) ?_
        refine s_q rfl rfl rfl (q_move rfl rfl) ?_
        refine s_q rfl rfl rfl ((by first | exact q_indexAddrVN rfl Try.underlying59 ti4 rfl rfl (by omega) | exact q_indexAddrN rfl Try.underlying59 ti4 rfl rfl (⟨_, _, rfl, fun _ _ h => by cases h; rfl, fun _ h => by cases h⟩) (by omega) | exact q_indexAddrV rfl Try.underlying59 ti4 rfl rfl (by omega) | exact q_indexAddr rfl Try.underlying59 ti4 rfl rfl (⟨_, _, rfl, fun _ _ h => by cases h; rfl, fun _ h => by cases h⟩) (by omega))) ?_
        refine s_q rfl rfl rfl ((by first | exact q_load_row rfl Try.underlying4 rfl rfl (by rfl) | exact q_load_vec rfl Try.underlying4 rfl rfl (stC_at (by omega)) | exact q_load_vec rfl Try.underlying4 rfl rfl (boC_at (by rw [show (holdsL c).length = 6 from rfl]; omega)))) ?_
        refine s_q rfl rfl rfl (q_assign rfl rfl) ?_
        refine s_q rfl rfl rfl (q_assign rfl rfl) ?_
        refine s_done ?_
        refine n_then ?_
        refine t_ret ?_
        refine n_ret_block ?_
        refine n_ret_then ?_
        refine n_ret_then ?_
        refine n_ret_block ?_
        refine n_ret_then ?_
        refine n_ret2 rfl rfl rfl (fun w' hw => ?_)
        -- leaf 0
        refine ⟨?_, hw.below⟩
        have h2 := cls_hit hk6 (by rw [← hall]; exact hc2) c
        rw [h2.1, h2.2]
        congr 3
        simp [hcl2]
      · skip
        refine t_skip ?_
        refine n_block ?_
        refine n_then ?_
        refine t_region ?_
        refine l_q rfl rfl rfl (q_move rfl rfl) ?_
        refine l_q rfl rfl rfl (q_add64 rfl rfl rfl (by omega)) ?_
        refine l_q rfl rfl rfl (q_assign rfl rfl) ?_
        refine l_nil ?_
        refine n_roundE (k + 1) ?_ ?_ (sub_cons rfl sub_nil) (sub_cons rfl (sub_cons rfl (sub_cons rfl (sub_cons rfl (sub_cons rfl (sub_cons rfl (sub_cons rfl (sub_cons rfl sub_nil)))))))) (fun _ h => by try dsimp only; exact subC_st h)
        · try dsimp only
          refine ⟨by omega, fun j hj => ?_⟩
          rcases Nat.lt_succ_iff_lt_or_eq.1 hj with h | rfl
          · exact hno j h
          · rw [hall] at hc2; exact hc2
        · try dsimp only
          omega
  · skip
    try simp at hc0
    have hk6 : k = 6 := by omega
    refine t_exit ?_
    refine n_exit_then ?_
    refine n_exit_then ?_
    refine n_exit_block ?_
    refine n_then ?_
    refine t_seq ?_
    refine t_region ?_
    refine l_q rfl rfl rfl (q_assign rfl rfl) ?_
    refine l_q rfl rfl rfl (q_assign rfl rfl) ?_
    refine l_nil ?_
    refine n_then ?_
    refine t_ret ?_
    refine n_ret2 rfl rfl rfl (fun w' hw => ?_)
    -- leaf 1
    refine ⟨?_, hw.below⟩
    have h2 := cls_miss (p := (p.drop i)) (fun j hj => hno j (by omega)) c
    rw [h2.1, h2.2]; rfl
set_option maxRecDepth 10000 in
theorem refBracket_X (v : Value) (p : List Ch) (i0 : Nat) (c : UInt8) (w : World) (hp : p.length ≤ 4611686018427387904) (hi0 : i0 < p.length) (hv : Sl (look w) 2 v (p.map chC)) : PureX Try.prog 25 [v, .int .i64 (i0 : Int), u8 c] w (RBrR p i0 c) := by
  refine enter Try.func25 rfl Try.ntmps25 rfl (St.start w (look w) (Le.refl _)) ?_
  refine t_seq ?_
  refine t_region ?_
  refine l_q rfl rfl rfl (q_assign rfl rfl) ?_
  refine l_q rfl rfl rfl (q_assign rfl rfl) ?_
  refine l_nil ?_
  refine n_then ?_
  refine t_seq ?_
  refine t_region ?_
  refine l_q rfl rfl rfl (q_move rfl rfl) ?_
  refine l_q rfl rfl rfl (q_add64 rfl rfl rfl (by omega)) ?_
  refine l_q rfl rfl rfl (q_assign rfl rfl) ?_
  refine l_nil ?_
  refine n_then ?_
  refine t_seq ?_
  refine t_region ?_
  refine l_q rfl rfl rfl (q_move rfl rfl) ?_
  refine l_q rfl rfl rfl (q_move rfl rfl) ?_
  refine l_q rfl rfl rfl (quiet_call rfl rfl rfl Try.func24 (by kernel_rfl) rfl ((fun w hw => is_pure v p (i0 + 1) 33 w hp (by omega) (hv.mono (Le.of_st hw))))) ?_
  refine l_q rfl rfl rfl (q_assign rfl rfl) ?_
  refine l_nil ?_
  refine n_then ?_
  refine t_cutE (ι := Nat) (fun zz => zz = (if startsP (p.drop (i0 + 1)) [33] then i0 + 2 else i0 + 1) ∧ i0 < zz ∧ zz ≤ p.length) (fun zz => [(8, .int .i64 (zz : Int))]) [(0, _), (1, _), (2, _), (6, _), (7, _), (9, _)] (fun zz => look w) (fun zz => []) (sub_cons rfl (sub_cons rfl (sub_cons rfl (sub_cons rfl (sub_cons rfl (sub_cons rfl sub_nil)))))) ?_ ?_
  · skip
    refine t_seq ?_
    refine t_region ?_
    refine l_q rfl rfl rfl (q_move rfl rfl) ?_
    refine l_nil ?_
    refine n_then ?_
    refine t_cond rfl (fun hc0 => ?_) (fun hc0 => ?_)
    · skip
      refine t_region ?_
      refine l_q rfl rfl rfl (q_move rfl rfl) ?_
      refine l_q rfl rfl rfl (q_add64 rfl rfl rfl (by omega)) ?_
      refine l_q rfl rfl rfl (q_assign rfl rfl) ?_
      refine l_nil ?_
      refine n_cut (i0 + 2) ?_ (sub_cons rfl sub_nil) (sub_cons rfl (sub_cons rfl (sub_cons rfl (sub_cons rfl (sub_cons rfl (sub_cons rfl sub_nil)))))) (fun _ h => by try dsimp only; exact subC_st h)
      · try dsimp only
        have h0 : startsP (p.drop (i0 + 1)) [33] = true := by rw [← isP_starts]; exact hc0
        have h1 := startsP_len h0
        rw [List.length_drop] at h1
        exact ⟨by rw [if_pos h0], by omega, by simp at h1; omega⟩
    · skip
      refine t_skip ?_
      refine n_cut (i0 + 1) ?_ (sub_cons rfl sub_nil) (sub_cons rfl (sub_cons rfl (sub_cons rfl (sub_cons rfl (sub_cons rfl (sub_cons rfl sub_nil)))))) (fun _ h => by try dsimp only; exact subC_st h)
      · try dsimp only
        have h0 : startsP (p.drop (i0 + 1)) [33] = false := by rw [← isP_starts]; exact hc0
        exact ⟨by rw [h0, if_neg (by simp)], by omega, by omega⟩
  rintro i1 ⟨hi1, hi01, hi1l⟩
  try dsimp only at *
  refine t_seq ?_
  refine t_region ?_
  refine l_q rfl rfl rfl (q_assign rfl rfl) ?_
  refine l_nil ?_
  refine n_then ?_
  refine t_seq ?_
  refine t_seq ?_
  refine t_region ?_
  refine l_q rfl rfl rfl (q_assign rfl rfl) ?_
  refine l_nil ?_
  refine n_then ?_
  refine t_block ?_
  refine t_loopE (ι := Nat × Bool × Bool) (fun zz => zz.1 ≤ p.length ∧ i0 < zz.1 ∧ brG (p.drop zz.1) zz.2.2 c zz.2.1 = brG (p.drop i1) true c false) (fun zz => p.length - zz.1) (fun zz => [(8, .int .i64 (zz.1 : Int)), (10, .bool zz.2.1), (11, .bool zz.2.2)]) [(0, _), (1, _), (2, _), (9, _)] (fun zz => look w) (fun zz => []) (i1, false, true) ?_ (sub_cons rfl (sub_cons rfl (sub_cons rfl sub_nil))) (sub_cons rfl (sub_cons rfl (sub_cons rfl (sub_cons rfl sub_nil)))) (fun _ h => subC_st h) ?_
  · try dsimp only
    exact ⟨hi1l, hi01, rfl⟩
  rintro ⟨i, fo, fi⟩ ⟨hi, hii, hbr⟩
  try dsimp only at *
  refine t_seq ?_
  refine t_seq ?_
  refine t_region ?_
  refine l_q rfl rfl rfl (q_move rfl rfl) ?_
  refine l_q rfl rfl rfl (q_move rfl rfl) ?_
  refine l_q rfl rfl rfl ((by first | exact q_lenV rfl Try.underlying22 rfl | exact q_len rfl Try.underlying22 rfl (Sl.lenOf hv (List.length_map _)))) ?_
  refine l_q rfl rfl rfl (q_lss rfl rfl rfl) ?_
  refine l_nil ?_
  refine n_then ?_
  refine t_cond rfl (fun hc1 => ?_) (fun hc1 => ?_)
  · skip
    try simp at hc1
    have hqn : (p.drop i) ≠ [] := List.ne_nil_of_length_pos (by rw [List.length_drop]; omega)
    refine t_skip ?_
    refine n_then ?_
    refine t_cutE (ι := Nat × Bool) (fun zz => zz.1 = i + (memP (p.drop i)).2 ∧ zz.2 = (fo || holdsM (memP (p.drop i)).1 c) ∧ (!fi && startsP (p.drop i) [93]) = false) (fun zz => [(8, .int .i64 (zz.1 : Int)), (10, .bool zz.2)]) [(11, _), (0, _), (1, _), (2, _), (9, _), (25, _)] (fun zz => look w) (fun zz => []) (sub_cons rfl (sub_cons rfl (sub_cons rfl (sub_cons rfl (sub_cons rfl (sub_cons rfl sub_nil)))))) ?_ ?_
    · skip
      refine t_block ?_
      refine t_seq ?_
      refine t_seq ?_
      refine t_qreg ?_
      refine s_q rfl rfl rfl (q_move rfl rfl) ?_
      refine s_q rfl rfl rfl (q_move rfl rfl) ?_
      refine s_q rfl rfl rfl (quiet_call rfl rfl rfl Try.func24 (by kernel_rfl) rfl ((fun w hw => is_pure v p (i) 93 w hp (by omega) (hv.mono (Le.of_st hw))))) ?_
      refine s_q rfl rfl rfl (q_move rfl rfl) ?_
      refine s_and2 2 3 29 32 31 _ _ rfl rfl rfl rfl rfl rfl (fun h32 => by
          try simp at h32
          refine s_g rfl rfl rfl rfl rfl rfl (q_move rfl rfl) ?_
          refine s_g rfl rfl rfl rfl rfl rfl (q_not rfl rfl) ?_
          exact s_val rfl
        ) (wanted_n rfl) rfl rfl rfl ?_
      refine s_done ?_
      refine n_then ?_
      refine t_cond rfl (fun hc2 => ?_) (fun hc2 => ?_)
      · skip
        have h2 : (isP p i 93 && !fi) = true := hc2
        refine t_seq ?_
        refine t_region ?_
        refine l_q rfl rfl rfl (q_move rfl rfl) ?_
        refine l_q rfl rfl rfl (q_add64 rfl rfl rfl (by omega)) ?_
        refine l_q rfl rfl rfl (q_move rfl rfl) ?_
        refine l_q rfl rfl rfl (q_sub64 rfl rfl rfl (by omega)) ?_
        refine l_q rfl rfl rfl (q_move rfl rfl) ?_
        refine l_q rfl rfl rfl (q_move rfl rfl) ?_
        refine l_q rfl rfl rfl (q_neq_bool rfl Try.underlying4 rfl rfl) ?_
        refine l_q rfl rfl rfl (q_assign rfl rfl) ?_
        refine l_q rfl rfl rfl (q_assign rfl rfl) ?_
        refine l_nil ?_
        refine n_then ?_
        refine t_ret ?_
        refine n_ret_then ?_
        refine n_ret_block ?_
        refine n_ret_then ?_
        refine n_ret_then ?_
        refine n_ret_block ?_
        refine n_ret_then ?_
        refine n_ret2 rfl rfl rfl (fun w' hw => ?_)
        -- leaf 0
        refine ⟨_, rfl, ⟨i + 1 - i0, (fo != startsP (p.drop (i0 + 1)) [33]), ?_, .inl ⟨by omega, by omega, ?_⟩⟩, hw.below⟩
        · rw [← isP_starts]; congr 3; congr 1; omega
        · rw [bracketP_at hi1, ← hbr, brG_eq hqn, if_pos (by rw [← isP_starts, Bool.and_comm]; exact h2), List.drop_drop, show i0 + (i + 1 - i0) = i + 1 by omega]; rfl
      · skip
        have h2 : (isP p i 93 && !fi) = false := hc2
        have hst : (!fi && startsP (p.drop i) [93]) = false := by rw [← isP_starts, Bool.and_comm]; exact h2
        refine t_skip ?_
        refine n_then ?_
        refine t_seq ?_
        refine t_region ?_
        refine l_q rfl rfl rfl (q_move rfl rfl) ?_
        refine l_q rfl rfl rfl (q_move rfl rfl) ?_
        refine l_q rfl rfl rfl (q_move rfl rfl) ?_
        refine l_q rfl rfl rfl (quiet_call rfl rfl rfl Try.func31 (by kernel_rfl) rfl ((fun w hw => class_pure v p i c w hp (by omega) (hv.mono (Le.of_st hw))))) ?_
        have hcn := clsN_le (p.drop i)
        refine l_q rfl rfl rfl (q_move rfl rfl) ?_
        refine l_q rfl rfl rfl (q_extract rfl rfl rfl) ?_
        refine l_q rfl rfl rfl (q_extract rfl rfl rfl) ?_
        refine l_q rfl rfl rfl (q_assign rfl rfl) ?_
        refine l_q rfl rfl rfl (q_assign rfl rfl) ?_
        refine l_nil ?_
        refine n_then ?_
        refine t_block ?_
        refine t_seq ?_
        refine t_region ?_
        refine l_q rfl rfl rfl (q_move rfl rfl) ?_
        refine l_q rfl rfl rfl (q_gtr rfl rfl rfl) ?_
        refine l_q rfl rfl rfl (q_assign rfl rfl) ?_
        refine l_nil ?_
        refine n_then ?_
        refine t_cond rfl (fun hc3 => ?_) (fun hc3 => ?_)
        · skip
          try simp at hc3
          refine t_seq ?_
          refine t_qreg ?_
          refine s_q rfl rfl rfl (q_move rfl rfl) ?_
          refine s_q rfl rfl rfl (q_move rfl rfl) ?_
          refine s_or2 1 1 63 65 64 _ _ rfl rfl rfl rfl rfl rfl (fun h65 => by
              try simp at h65
              refine s_g rfl rfl rfl rfl rfl rfl (q_move rfl rfl) ?_
              exact s_val rfl
            ) (wanted_n rfl) rfl rfl rfl ?_
          refine s_q rfl rfl rfl (q_assign rfl rfl) ?_
          refine s_done ?_
          refine n_then ?_
          refine t_region ?_
          refine l_q rfl rfl rfl (q_move rfl rfl) ?_
          refine l_q rfl rfl rfl (q_move rfl rfl) ?_
          refine l_q rfl rfl rfl (q_add64 rfl rfl rfl (by omega)) ?_
          refine l_q rfl rfl rfl (q_assign rfl rfl) ?_
          refine l_nil ?_
          refine n_block ?_
          refine n_block ?_
          refine n_cut ((i + clsN (p.drop i), (fo || clsH (p.drop i) c))) ?_ (sub_cons rfl (sub_cons rfl sub_nil)) (sub_cons rfl (sub_cons rfl (sub_cons rfl (sub_cons rfl (sub_cons rfl (sub_cons rfl sub_nil)))))) (fun _ h => by try dsimp only; exact subC_st h)
          · try dsimp only
            have h3 : 0 < clsN (p.drop i) := by omega
            have h4 := memP_cls (c := c) h3
            exact ⟨by rw [h4.1], by rw [h4.2], hst⟩
        · skip
          try simp at hc3
          refine t_seq ?_
          refine t_qreg ?_
          refine s_q rfl rfl rfl (q_move rfl rfl) ?_
          refine s_q rfl rfl rfl (q_move rfl rfl) ?_
          refine s_q rfl rfl rfl (q_add64 rfl rfl rfl (by omega)) ?_
          refine s_q rfl rfl rfl (quiet_call rfl rfl rfl Try.func24 (by kernel_rfl) rfl ((fun w hw => is_pure v p (i + 1) 45 w hp (by omega) (hv.mono (Le.of_st hw))))) ?_
          refine s_q rfl rfl rfl (q_move rfl rfl) ?_
          refine s_and2 5 4 74 80 79 _ _ rfl rfl rfl rfl rfl rfl (fun h80 => by
              try simp at h80
              refine s_g rfl rfl rfl rfl rfl rfl (q_move rfl rfl) ?_
              refine s_g rfl rfl rfl rfl rfl rfl (q_add64 rfl rfl rfl (by omega)) ?_
              refine s_g rfl rfl rfl rfl rfl rfl (q_move rfl rfl) ?_
              refine s_g rfl rfl rfl rfl rfl rfl ((by first | exact q_lenV rfl Try.underlying22 rfl | exact q_len rfl Try.underlying22 rfl (Sl.lenOf hv (List.length_map _)))) ?_
              refine s_g rfl rfl rfl rfl rfl rfl (q_lss rfl rfl rfl) ?_
              exact s_val rfl
            ) (wanted_n rfl) rfl rfl rfl ?_
          refine s_q rfl rfl rfl (q_move rfl rfl) ?_
          refine s_and2 5 11 81 87 86 _ _ rfl rfl rfl rfl rfl rfl (fun h87 => by
              try simp at h87
              refine s_g rfl rfl rfl rfl rfl rfl (q_move rfl rfl) ?_
              refine s_g rfl rfl rfl rfl rfl rfl (q_move rfl rfl) ?_
              refine s_g rfl rfl rfl rfl rfl rfl (q_add64 rfl rfl rfl (by omega)) ?_
              refine s_g rfl rfl rfl rfl rfl rfl (quiet_call rfl rfl rfl Try.func24 (by kernel_rfl) rfl ((fun w hw => is_pure v p (i + 2) 93 w hp (by omega) (hv.mono (Le.of_st hw))))) ?_
              refine s_g rfl rfl rfl rfl rfl rfl (q_not rfl rfl) ?_
              exact s_val rfl
            ) (wanted_n rfl) rfl rfl rfl ?_
          refine s_q rfl rfl rfl (q_assign rfl rfl) ?_
          refine s_done ?_
          refine n_then ?_
          refine t_cond rfl (fun hc4 => ?_) (fun hc4 => ?_)
          · skip
            have h4 : (isP p (i + 1) 45 && decide (((i : Int) + 2) < (p.length : Int)) && !isP p (i + 2) 93) = true := hc4
            have h42 : i + 2 < p.length := by rw [Bool.and_eq_true, Bool.and_eq_true, decide_eq_true_eq] at h4; omega
            refine t_seq ?_
            refine t_qreg ?_
            refine s_q rfl rfl rfl (q_move rfl rfl) ?_
            refine s_q rfl rfl rfl (q_move rfl rfl) ?_
            refine s_or2 17 1 89 107 106 _ _ rfl rfl rfl rfl rfl rfl (fun h107 => by
                try simp at h107
                refine s_g rfl rfl rfl rfl rfl rfl (q_move rfl rfl) ?_
                refine s_g rfl rfl rfl rfl rfl rfl (q_move rfl rfl) ?_
                refine s_g rfl rfl rfl rfl rfl rfl ((by first | exact q_indexAddrVN rfl Try.underlying22 ti29 rfl rfl (by omega) | exact q_indexAddrN rfl Try.underlying22 ti29 rfl rfl (Sl.shape hv (List.length_map _)) (by omega) | exact q_indexAddrV rfl Try.underlying22 ti29 rfl rfl (by omega) | exact q_indexAddr rfl Try.underlying22 ti29 rfl rfl (Sl.shape hv (List.length_map _)) (by omega))) ?_
                refine s_g rfl rfl rfl rfl rfl rfl (q_fieldAddr rfl Try.underlying29 rfl rfl ti5 rfl rfl) ?_
                refine s_g rfl rfl rfl rfl rfl rfl ((by first | exact q_load_row rfl Try.underlying5 rfl rfl (by rfl) | exact q_load rfl Try.underlying5 rfl rfl (rd_ch_b0 (i := i) hv (by omega)) | exact q_load rfl Try.underlying5 rfl rfl (rd_ch_b0 (i := i + 2) hv (by omega)))) ?_
                refine s_g rfl rfl rfl rfl rfl rfl (q_move rfl rfl) ?_
                refine s_g rfl rfl rfl rfl rfl rfl (q_leq rfl rfl rfl) ?_
                refine s_g rfl rfl rfl rfl rfl rfl (q_move rfl rfl) ?_
                refine s_and2 8 9 97 106 105 _ _ rfl rfl rfl rfl rfl rfl (fun h106 => by
                    try simp at h106
                    refine s_g rfl rfl rfl rfl rfl rfl (q_move rfl rfl) ?_
                    refine s_g rfl rfl rfl rfl rfl rfl (q_move rfl rfl) ?_
                    refine s_g rfl rfl rfl rfl rfl rfl (q_move rfl rfl) ?_
                    refine s_g rfl rfl rfl rfl rfl rfl (q_add64 rfl rfl rfl (by omega)) ?_
                    refine s_g rfl rfl rfl rfl rfl rfl ((by first | exact q_indexAddrVN rfl Try.underlying22 ti29 rfl rfl (by omega) | exact q_indexAddrN rfl Try.underlying22 ti29 rfl rfl (Sl.shape hv (List.length_map _)) (by omega) | exact q_indexAddrV rfl Try.underlying22 ti29 rfl rfl (by omega) | exact q_indexAddr rfl Try.underlying22 ti29 rfl rfl (Sl.shape hv (List.length_map _)) (by omega))) ?_
                    refine s_g rfl rfl rfl rfl rfl rfl (q_fieldAddr rfl Try.underlying29 rfl rfl ti5 rfl rfl) ?_
                    refine s_g rfl rfl rfl rfl rfl rfl ((by first | exact q_load_row rfl Try.underlying5 rfl rfl (by rfl) | exact q_load rfl Try.underlying5 rfl rfl (rd_ch_b0 (i := i) hv (by omega)) | exact q_load rfl Try.underlying5 rfl rfl (rd_ch_b0 (i := i + 2) hv (by omega)))) ?_
                    refine s_g rfl rfl rfl rfl rfl rfl (q_leq rfl rfl rfl) ?_
                    exact s_val rfl
                  ) (wanted_g rfl rfl rfl rfl) rfl rfl rfl ?_
                exact s_val rfl
              ) (wanted_n rfl) rfl rfl rfl ?_
            refine s_q rfl rfl rfl (q_assign rfl rfl) ?_
            refine s_done ?_
            refine n_then ?_
            refine t_region ?_
            refine l_q rfl rfl rfl (q_move rfl rfl) ?_
            refine l_q rfl rfl rfl (q_add64 rfl rfl rfl (by omega)) ?_
            refine l_q rfl rfl rfl (q_assign rfl rfl) ?_
            refine l_nil ?_
            refine n_block ?_
            refine n_block ?_
            refine n_cut ((i + 3, (fo || (decide (((nth p i ch0).b.toNat : Int) ≤ (c.toNat : Int)) && decide ((c.toNat : Int) ≤ ((nth p (i + 2) ch0).b.toNat : Int)))))) ?_ (sub_cons rfl (sub_cons rfl sub_nil)) (sub_cons rfl (sub_cons rfl (sub_cons rfl (sub_cons rfl (sub_cons rfl (sub_cons rfl sub_nil)))))) (fun _ h => by try dsimp only; exact subC_st h)
            · try dsimp only
              have h4 := rg_iff (clsN_zero (show ¬ 0 < clsN (p.drop i) by omega)) true hc4
              rw [h4, if_pos rfl, holdsM_nil]
              exact ⟨rfl, rfl, hst⟩
          · skip
            refine t_seq ?_
            refine t_qreg ?_
            refine s_q rfl rfl rfl (q_move rfl rfl) ?_
            refine s_q rfl rfl rfl (q_move rfl rfl) ?_
            refine s_or2 7 1 48 56 55 _ _ rfl rfl rfl rfl rfl rfl (fun h56 => by
                try simp at h56
                refine s_g rfl rfl rfl rfl rfl rfl (q_move rfl rfl) ?_
                refine s_g rfl rfl rfl rfl rfl rfl (q_move rfl rfl) ?_
                refine s_g rfl rfl rfl rfl rfl rfl ((by first | exact q_indexAddrVN rfl Try.underlying22 ti29 rfl rfl (by omega) | exact q_indexAddrN rfl Try.underlying22 ti29 rfl rfl (Sl.shape hv (List.length_map _)) (by omega) | exact q_indexAddrV rfl Try.underlying22 ti29 rfl rfl (by omega) | exact q_indexAddr rfl Try.underlying22 ti29 rfl rfl (Sl.shape hv (List.length_map _)) (by omega))) ?_
                refine s_g rfl rfl rfl rfl rfl rfl (q_fieldAddr rfl Try.underlying29 rfl rfl ti5 rfl rfl) ?_
                refine s_g rfl rfl rfl rfl rfl rfl ((by first | exact q_load_row rfl Try.underlying5 rfl rfl (by rfl) | exact q_load rfl Try.underlying5 rfl rfl (rd_ch_b0 (i := i) hv (by omega)) | exact q_load rfl Try.underlying5 rfl rfl (rd_ch_b0 (i := i + 2) hv (by omega)))) ?_
                refine s_g rfl rfl rfl rfl rfl rfl (q_move rfl rfl) ?_
                refine s_g rfl rfl rfl rfl rfl rfl (q_eql_u8 rfl rfl rfl) ?_
                exact s_val rfl
              ) (wanted_n rfl) rfl rfl rfl ?_
            refine s_q rfl rfl rfl (q_assign rfl rfl) ?_
            refine s_done ?_
            refine n_then ?_
            refine t_region ?_
            refine l_q rfl rfl rfl (q_move rfl rfl) ?_
            refine l_q rfl rfl rfl (q_add64 rfl rfl rfl (by omega)) ?_
            refine l_q rfl rfl rfl (q_assign rfl rfl) ?_
            refine l_nil ?_
            refine n_block ?_
            refine n_block ?_
            refine n_cut ((i + 1, (fo || decide ((nth p i ch0).b = c)))) ?_ (sub_cons rfl (sub_cons rfl sub_nil)) (sub_cons rfl (sub_cons rfl (sub_cons rfl (sub_cons rfl (sub_cons rfl (sub_cons rfl sub_nil)))))) (fun _ h => by try dsimp only; exact subC_st h)
            · try dsimp only
              have h4 := rg_iff (clsN_zero (show ¬ 0 < clsN (p.drop i) by omega)) false hc4
              rw [h4, if_neg (by simp), holdsM_one]
              exact ⟨rfl, rfl, hst⟩
    rintro ⟨i2, f2⟩ ⟨hi2, hf2, hst⟩
    try dsimp only at *
    refine t_region ?_
    refine l_q rfl rfl rfl (q_assign rfl rfl) ?_
    refine l_nil ?_
    have hm1 := memP_len hqn
    have hm2 := memP_pos (p.drop i)
    rw [List.length_drop] at hm1
    refine n_roundE ((i2, f2, false)) ?_ ?_ (sub_cons rfl (sub_cons rfl (sub_cons rfl sub_nil))) (sub_cons rfl (sub_cons rfl (sub_cons rfl (sub_cons rfl sub_nil)))) (fun _ h => by try dsimp only; exact subC_st h)
    · try dsimp only
      refine ⟨by omega, by omega, ?_⟩
      rw [← hbr, brG_eq hqn, if_neg (by rw [hst]; simp), List.drop_drop, ← hi2, ← hf2]
    · try dsimp only
      omega
  · skip
    try simp at hc1
    refine t_exit ?_
    refine n_exit_then ?_
    refine n_exit_then ?_
    refine n_exit_block ?_
    refine n_then ?_
    refine t_seq ?_
    refine t_region ?_
    refine l_q rfl rfl rfl (q_assign rfl rfl) ?_
    refine l_q rfl rfl rfl (q_assign rfl rfl) ?_
    refine l_nil ?_
    refine n_then ?_
    refine t_ret ?_
    refine n_ret2 rfl rfl rfl (fun w' hw => ?_)
    -- leaf 1
    refine ⟨_, rfl, ⟨0, false, rfl, .inr ⟨rfl, ?_⟩⟩, hw.below⟩
    have e : p.drop i = [] := List.drop_of_length_le (by omega)
    rw [bracketP_at hi1, ← hbr, e]; rfl
end Go.Tri
