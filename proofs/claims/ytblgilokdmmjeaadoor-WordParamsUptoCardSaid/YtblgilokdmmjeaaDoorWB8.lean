/-
  Parts, and what is static.
-/
import Derived.Test.YtblgilokdmmjeaaDoorWB7
namespace Go.Tri
open Go.Proofs Go.RowKit
def statO (M : List PE) : Option (List UInt8) := statP (M.map PE.pt)
theorem stat_no {M : List PE} {i : Nat} (hi : i < M.length) (hk : ¬ (nth M i pe0).kind = 1) : statP (M.map PE.pt) = none := by
  unfold statP
  rw [if_neg]
  intro h
  have := List.all_eq_true.1 h (nth M i pe0).pt (List.mem_map.2 ⟨_, nth_mem hi, rfl⟩)
  exact hk (of_decide_eq_true this)
theorem stat_yes {M : List PE} (h : ∀ k, k < M.length → (nth M k pe0).kind = 1) : statP (M.map PE.pt) = some ((M.map PE.text).flatten) := by
  unfold statP
  rw [if_pos, List.map_map]
  · rfl
  · rw [List.all_eq_true]
    intro p hp
    obtain ⟨x, hx, rfl⟩ := List.mem_map.1 hp
    obtain ⟨k, hk, rfl⟩ := List.getElem_of_mem hx
    rw [← nth_eq (d := pe0) hk]
    exact decide_eq_true (h k hk)
theorem texts_snoc {M : List PE} {i : Nat} (hi : i < M.length) : ((M.take (i + 1)).map PE.text).flatten = ((M.take i).map PE.text).flatten ++ (nth M i pe0).text := by
  rw [take_nth pe0 hi, List.map_append, List.flatten_append]; simp
theorem texts_len (M : List PE) : ((M.map PE.text).flatten).length = sumT M := by
  unfold sumT
  induction M with
  | nil => rfl
  | cons a M ih => rw [List.map_cons, List.flatten_cons, List.length_append, ih, List.map_cons, List.sum_cons]
set_option maxRecDepth 10000 in
theorem parts_calls (s : List UInt8) (kind : Int) (I : Look) (F : List HA) (w0 w : World) (hs : s.length ≤ 1000000000) (hG : EnvI I) (hw0 : St w0 I F w) : Calls Tryd.prog 9 [str s, .int .i64 kind].toArray w (fun e w' => ∃ v, e = .returned v ∧ ∃ I' H', (Le I I' ∧ F = H' ∧ ∃ vl, ∃ e1 : Nat, v = .tuple #[vl, .int .i64 (e1 : Int)] ∧ WRes (partsP s kind) I' vl e1) ∧ St w I' H' w') := by
  refine enter Tryd.func9 rfl Tryd.ntmps9 rfl (hw0.self) ?_
  refine t_seq ?_
  refine t_region ?_
  refine l_q rfl rfl rfl (q_assign rfl rfl) ?_
  refine l_q rfl rfl rfl (q_assign rfl rfl) ?_
  refine l_nil ?_
  refine n_then ?_
  refine t_seq ?_
  refine t_block ?_
  refine t_seq ?_
  refine t_region ?_
  refine l_q rfl rfl rfl (q_move rfl rfl) ?_
  refine l_q rfl rfl rfl (q_len_str rfl Tryd.underlying9 rfl) ?_
  refine l_q rfl rfl rfl (q_gtr rfl rfl rfl) ?_
  refine l_q rfl rfl rfl (q_assign rfl rfl) ?_
  refine l_nil ?_
  refine n_then ?_
  refine t_cond rfl (fun hc0 => ?_) (fun hc0 => ?_)
  · skip
    try simp at hc0
    have hpp : partsP s kind = .bad 50 := by rw [partsP, if_pos (by omega)]
    refine t_seq ?_
    refine t_region ?_
    refine l_q rfl rfl rfl (q_assign rfl rfl) ?_
    refine l_q rfl rfl rfl (q_assign rfl rfl) ?_
    refine l_nil ?_
    refine n_then ?_
    refine t_ret ?_
    refine n_ret_block ?_
    refine n_ret_then ?_
    refine n_ret2 rfl rfl rfl (fun w' hw => ?_)
    -- leaf 0
    exact ⟨_, rfl, I, _, ⟨Le.refl _, rfl, nilV, 50, rfl, (by rw [hpp]; exact ⟨rfl, by decide, rfl⟩)⟩, hw⟩
  · skip
    try simp at hc0
    have hs6 : ¬ 65536 < s.length := by omega
    refine t_seq ?_
    refine t_qreg ?_
    refine s_q rfl rfl rfl (q_move rfl rfl) ?_
    refine s_q rfl rfl rfl (q_lss rfl rfl rfl) ?_
    refine s_q rfl rfl rfl (q_move rfl rfl) ?_
    refine s_or2 2 2 13 16 15 _ _ rfl rfl rfl rfl rfl rfl (fun h16 => by
        try simp at h16
        refine s_g rfl rfl rfl rfl rfl rfl (q_move rfl rfl) ?_
        refine s_g rfl rfl rfl rfl rfl rfl (q_gtr rfl rfl rfl) ?_
        exact s_val rfl
      ) (wanted_n rfl) rfl rfl rfl ?_
    refine s_q rfl rfl rfl (q_assign rfl rfl) ?_
    refine s_done ?_
    refine n_then ?_
    refine t_cond rfl (fun hc1 => ?_) (fun hc1 => ?_)
    · skip
      have h1 : kind < 0 ∨ 2 < kind := by simpa using hc1
      have hpp : partsP s kind = .bad 73 := by rw [partsP, if_neg hs6, if_pos h1]
      refine t_seq ?_
      refine t_region ?_
      refine l_q rfl rfl rfl (q_assign rfl rfl) ?_
      refine l_q rfl rfl rfl (q_assign rfl rfl) ?_
      refine l_nil ?_
      refine n_then ?_
      refine t_ret ?_
      refine n_ret_block ?_
      refine n_ret_then ?_
      refine n_ret2 rfl rfl rfl (fun w' hw => ?_)
      -- leaf 1
      exact ⟨_, rfl, I, _, ⟨Le.refl _, rfl, nilV, 73, rfl, (by rw [hpp]; exact ⟨rfl, by decide, rfl⟩)⟩, hw⟩
    · skip
      have h1 : ¬ (kind < 0 ∨ 2 < kind) := by
        have h := hc1
        rw [Bool.or_eq_false_iff, decide_eq_false_iff_not, decide_eq_false_iff_not] at h
        exact fun h2 => h2.elim h.1 h.2
      obtain ⟨kind, rfl⟩ : ∃ k : Nat, kind = (k : Int) := ⟨kind.toNat, by omega⟩
      have hk2 : kind ≤ 2 := by omega
      have hpp : partsP s (kind : Int) = wP 24 kind s := by rw [partsP, if_neg hs6, if_neg h1]; rfl
      refine t_skip ?_
      refine n_block ?_
      refine n_then ?_
      refine t_seq ?_
      refine t_region ?_
      refine l_q rfl rfl rfl (q_move rfl rfl) ?_
      refine l_q rfl rfl rfl (q_move rfl rfl) ?_
      refine l_e rfl rfl rfl (eff_call rfl rfl rfl Tryd.func17 (by kernel_rfl) rfl (fun w hw => within_ok 24 s kind 0 _ _ _ w rfl (by omega) hk2 (by omega) hG hw)) ?_
      rintro _ J19 _ ⟨hJ19, rfl, vl, e1, rfl, hres⟩
      refine l_q rfl rfl rfl (q_extract rfl rfl rfl) ?_
      refine l_q rfl rfl rfl (q_extract rfl rfl rfl) ?_
      refine l_q rfl rfl rfl (q_assign rfl rfl) ?_
      refine l_q rfl rfl rfl (q_assign rfl rfl) ?_
      refine l_nil ?_
      refine n_then ?_
      refine t_ret ?_
      refine n_ret2 rfl rfl rfl (fun w' hw => ?_)
      -- leaf 2
      exact ⟨_, rfl, J19, _, ⟨hJ19, rfl, vl, e1, rfl, (by rw [hpp]; exact hres)⟩, hw⟩
set_option maxRecDepth 10000 in
theorem static_pure (vl : Value) (M : List PE) (w : World) (hn : M.length ≤ 1000000000) (hs : sumT M ≤ 1000000000) (hvl : Sl (look w) 5 vl (M.map partC)) (hWM : WordsR (look w) M) : Pure Tryd.prog 14 [vl] w (.tuple #[str ((statP (M.map PE.pt)).getD []), .bool (statP (M.map PE.pt)).isSome]) := by
  refine enter Tryd.func14 rfl Tryd.ntmps14 rfl (St.start w (look w) (Le.refl _)) ?_
  refine t_seq ?_
  refine t_region ?_
  refine l_q rfl rfl rfl (q_assign rfl rfl) ?_
  refine l_q rfl rfl rfl (q_assign rfl rfl) ?_
  refine l_nil ?_
  refine n_then ?_
  refine t_seq ?_
  refine t_region ?_
  refine l_e rfl rfl rfl (e_alloc rfl ti49 rfl) ?_
  rintro _ _ _ ⟨b4, rfl, rfl, rfl⟩
  refine l_nil ?_
  refine n_then ?_
  refine t_seq ?_
  refine t_seq ?_
  refine t_region ?_
  refine l_q rfl rfl rfl (q_move rfl rfl) ?_
  refine l_q rfl rfl rfl ((by first | exact q_lenV rfl Tryd.underlying23 rfl | exact q_len rfl Tryd.underlying23 rfl (Sl.lenOf hvl (List.length_map _)))) ?_
  refine l_q rfl rfl rfl (q_move rfl rfl) ?_
  refine l_nil ?_
  refine n_then ?_
  refine t_block ?_
  refine t_loopE (ι := Nat × Option Addr × Value) (fun zz => zz.1 ≤ M.length ∧ (∀ k, k < zz.1 → (nth M k pe0).kind = 1) ∧ (zz.2.1 = none ∨ zz.2.1 = some ⟨b4, 0, none⟩) ∧ BufOk zz.2.2 (((M.take zz.1).map PE.text).flatten)) (fun zz => M.length - zz.1) (fun zz => [(9, .int .i64 (zz.1 : Int))]) [(0, _), (4, _), (7, _), (8, _)] (fun zz => look w) (fun zz => [row b4 49 [.pointer zz.2.1, zz.2.2], tvec 5 1 byC zz.2.2 (((M.take zz.1).map PE.text).flatten)]) (0, none, .slice none 0 0) ?_ (sub_cons rfl sub_nil) (sub_cons rfl (sub_cons rfl (sub_cons rfl (sub_cons rfl sub_nil)))) (fun _ h => by dsimp only; rw [List.take_zero, List.map_nil, List.flatten_nil]; exact subC_st (st_nilT 5 1 byC h)) ?_
  · try dsimp only
    exact ⟨Nat.zero_le _, fun k h => absurd h (Nat.not_lt_zero _), .inl rfl, .inl rfl⟩
  rintro ⟨i, p, vb⟩ ⟨hi, hall, hp, hok⟩
  try dsimp only at *
  have hst := sumT_take M i
  refine t_seq ?_
  refine t_region ?_
  refine l_q rfl rfl rfl (q_lss rfl rfl rfl) ?_
  refine l_nil ?_
  refine n_then ?_
  refine t_seq ?_
  refine t_cond rfl (fun hc0 => ?_) (fun hc0 => ?_)
  · skip
    try simp at hc0
    have hiM : i < M.length := by omega
    refine t_skip ?_
    refine n_then ?_
    refine t_seq ?_
    refine t_block ?_
    refine t_seq ?_
    refine t_region ?_
    refine l_q rfl rfl rfl ((by first | exact q_indexAddrVN rfl Tryd.underlying23 ti32 rfl rfl (by omega) | exact q_indexAddrN rfl Tryd.underlying23 ti32 rfl rfl (Sl.shape hvl (List.length_map _)) (by omega) | exact q_indexAddrV rfl Tryd.underlying23 ti32 rfl rfl (by omega) | exact q_indexAddr rfl Tryd.underlying23 ti32 rfl rfl (Sl.shape hvl (List.length_map _)) (by omega))) ?_
    refine l_q rfl rfl rfl ((by first | exact q_load_rowA rfl Tryd.underlying32 ti32 rfl rfl rfl | exact q_load_agg rfl Tryd.underlying32 ti32 rfl rfl (rds_pt (i := i) hvl (by omega)))) ?_
    refine l_e rfl rfl rfl (e_alloc rfl ti32 rfl) ?_
    rintro _ _ _ ⟨b6, rfl, rfl, rfl⟩
    refine l_e0 rfl rfl ((by first | exact e_store_all rfl ti32 rfl rfl rfl (by first | exact chC_ones _ | exact pcC_ones _ | exact partC_ones (hWM _ (nth_mem (by omega))) | simp [Value.oneCell', str, u8]) rfl | exact e_store_agg rfl ti32 rfl rfl rfl (by first | exact chC_ones _ | exact pcC_ones _ | exact partC_ones (hWM _ (nth_mem (by omega))) | simp [Value.oneCell', str, u8]) rfl)) ?_
    rintro _ _ _ ⟨rfl, rfl⟩
    refine l_nil ?_
    refine n_then ?_
    refine t_seq ?_
    refine t_seq ?_
    refine t_region ?_
    refine l_q rfl rfl rfl (q_fieldAddr rfl Tryd.underlying32 rfl rfl ti3 rfl rfl) ?_
    refine l_q rfl rfl rfl (q_load_row rfl Tryd.underlying3 rfl rfl (by rfl)) ?_
    refine l_q rfl rfl rfl (q_neq rfl rfl rfl) ?_
    refine l_nil ?_
    refine n_then ?_
    refine t_cond rfl (fun hc1 => ?_) (fun hc1 => ?_)
    · skip
      try simp at hc1
      have hk1 : ¬ (nth M i pe0).kind = 1 := by omega
      have hsn := stat_no hiM hk1
      refine t_seq ?_
      refine t_region ?_
      refine l_q rfl rfl rfl (q_assign rfl rfl) ?_
      refine l_q rfl rfl rfl (q_assign rfl rfl) ?_
      refine l_nil ?_
      refine n_then ?_
      refine t_ret ?_
      refine n_ret_then ?_
      refine n_ret_block ?_
      refine n_ret_then ?_
      refine n_ret_then ?_
      refine n_ret_block ?_
      refine n_ret_then ?_
      refine n_ret2 rfl rfl rfl (fun w' hw => ?_)
      -- leaf 0
      refine ⟨?_, hw.below⟩
      rw [hsn]; rfl
    · skip
      try simp at hc1
      have hk1 : (nth M i pe0).kind = 1 := by omega
      refine t_skip ?_
      refine n_then ?_
      refine t_region ?_
      refine l_q rfl rfl rfl (q_fieldAddr rfl Tryd.underlying32 rfl rfl ti9 rfl rfl) ?_
      refine l_q rfl rfl rfl (q_load_row rfl Tryd.underlying9 rfl rfl (by rfl)) ?_
      refine l_e rfl rfl rfl (eff_call rfl rfl rfl Tryd.func22 (by kernel_rfl) rfl (fun w hw => writeStringB_calls b4 p vb ((M.take i).map PE.text).flatten (nth M i pe0).text _ _ _ w hp (by rw [texts_len]; have := sumT_mem (nth_mem (l := M) (i := i) (d := pe0) (by omega)); omega) (picks_st2 (row b4 49 [.pointer p, vb]) (tvec 5 1 byC vb (((M.take i).map PE.text).flatten)) hw))) ?_
      rintro _ _ _ ⟨rfl, rfl, vb2, rfl, hbo⟩
      refine l_nil ?_
      refine n_block ?_
      refine n_then ?_
      refine t_region ?_
      refine l_q rfl rfl rfl (q_add64 rfl rfl rfl (by omega)) ?_
      refine l_q rfl rfl rfl (q_move rfl rfl) ?_
      refine l_nil ?_
      refine n_roundE ((i + 1, some ⟨b4, 0, none⟩, vb2)) ?_ ?_ (sub_cons rfl sub_nil) (sub_cons rfl (sub_cons rfl (sub_cons rfl (sub_cons rfl sub_nil)))) (fun _ h => by dsimp only; rw [texts_snoc hiM]; exact subC_st h)
      · try dsimp only
        refine ⟨by omega, fun k hk => ?_, .inr rfl, by rw [texts_snoc hiM]; exact hbo hok⟩
        rcases Nat.lt_succ_iff_lt_or_eq.1 hk with h | rfl
        · exact hall k h
        · exact hk1
      · try dsimp only
        show M.length - (i + 1) < M.length - i
        omega
  · skip
    try simp at hc0
    have hiM : i = M.length := by omega
    have hsy := stat_yes (M := M) (fun k hk => hall k (by omega))
    refine t_exit ?_
    refine n_exit_then ?_
    refine n_exit_then ?_
    refine n_exit_block ?_
    refine n_then ?_
    refine t_seq ?_
    refine t_region ?_
    refine l_e rfl rfl rfl (eff_call rfl rfl rfl Tryd.func23 (by kernel_rfl) rfl (fun w hw => builderString_calls b4 (.pointer p) vb ((M.take i).map PE.text).flatten _ _ _ w hok (by rw [texts_len]; omega) (picks_st2 (row b4 49 [.pointer p, vb]) (tvec 5 1 byC vb (((M.take i).map PE.text).flatten)) hw))) ?_
    rintro _ _ _ ⟨rfl, rfl, rfl⟩
    refine l_q rfl rfl rfl (q_assign rfl rfl) ?_
    refine l_q rfl rfl rfl (q_assign rfl rfl) ?_
    refine l_nil ?_
    refine n_then ?_
    refine t_ret ?_
    refine n_ret2 rfl rfl rfl (fun w' hw => ?_)
    -- leaf 1
    refine ⟨?_, hw.below⟩
    rw [hsy, hiM, List.take_length]; rfl
end Go.Tri
