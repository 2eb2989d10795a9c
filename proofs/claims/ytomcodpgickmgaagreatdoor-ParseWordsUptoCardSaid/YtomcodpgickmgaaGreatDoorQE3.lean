/-
  The statement: ParseWords.
-/
import Derived.Test.YtomcodpgickmgaaGreatDoorQE2
namespace Go.Tri
open Go.Proofs Go.RowKit
def simpQ (l : List (List UInt8)) : Nd := .mk 1 false false [] (l.map wordQ) [] []
theorem blockS_snoc {l : List (List UInt8)} {k : Nat} (h : k < l.length) : blockS (l.take (k + 1)) = blockS (l.take k) ++ (wordQ (nth l k []) ++ [32]) := by
  rw [take_nth [] h]; unfold blockS; rw [List.flatMap_append]; simp
theorem mapQ_snoc {l : List (List UInt8)} {k : Nat} (h : k < l.length) : (l.take (k + 1)).map wordQ = (l.take k).map wordQ ++ [wordQ (nth l k [])] := by
  rw [take_nth [] h, List.map_append]; rfl
theorem wordQ_len (t : List UInt8) : (wordQ t).length ≤ 4 * t.length + 5 := by
  have := quoteB_len t
  unfold wordQ
  simp only [List.length_append, List.length_cons, List.length_nil]; omega
theorem blockS_len : ∀ l : List (List UInt8), (blockS l).length ≤ 4 * totS l + 6 * l.length
  | [] => by simp [blockS]
  | t :: l => by
    have ih := blockS_len l
    have h1 := wordQ_len t
    unfold blockS totS at ih ⊢
    rw [List.flatMap_cons, List.map_cons, List.sum_cons]
    simp only [List.length_append, List.length_cons, List.length_nil]
    omega
theorem totS_take (l : List (List UInt8)) (k : Nat) : totS (l.take k) ≤ totS l := by
  conv => rhs; rw [← List.take_append_drop k l]
  unfold totS
  rw [List.map_append, List.sum_append]
  omega
theorem wordQ_block {l : List (List UInt8)} {t : List UInt8} (h : t ∈ l) : (wordQ t).length ≤ (blockS l).length := by
  induction l with
  | nil => cases h
  | cons u l ih =>
    unfold blockS at ih ⊢
    rw [List.flatMap_cons, List.length_append, List.length_append]
    rcases List.mem_cons.1 h with rfl | h
    · omega
    · have := ih h
      omega
theorem tailS_snoc (l : List (List UInt8)) : ∀ k, tailS l (k + 1) = tailS l k ++ ([124, 10] ++ blockS l)
  | 0 => by simp [tailS]
  | k + 1 => by
    show [124, 10] ++ blockS l ++ tailS l (k + 1) = ([124, 10] ++ blockS l ++ tailS l k) ++ _
    rw [tailS_snoc l k]
    simp only [List.append_assoc]
theorem tailS_len (l : List (List UInt8)) : ∀ k, (tailS l k).length = k * ((blockS l).length + 2)
  | 0 => by simp [tailS]
  | k + 1 => by
    rw [tailS, List.length_append, List.length_append, tailS_len l k, Nat.add_mul]
    simp only [List.length_cons, List.length_nil]; omega
theorem at1 {I : Look} {l : List (List UInt8)} {c : NC} (h : NdAt I (simpQ l) c) : c.kind = 1 ∧ Sl I 1 c.wv ((l.map wordQ).map stC) := by
  unfold simpQ NdAt at h
  exact ⟨h.1, h.2.2.2.2.1⟩
theorem atK {I : Look} {k : Nat} {ks : List Nd} {c : NC} (h : NdAt I (ndK k ks) c) : c.kind = k ∧ c.not = false ∧ ∃ cs, Sl I 7 c.kv (cs.map ncC) ∧ NdsAt I ks cs := by
  unfold ndK NdAt at h
  obtain ⟨h1, h2, -, -, -, -, cs, h7, h8⟩ := h
  exact ⟨h1, h2, cs, h7, h8⟩
theorem nth_rep {α : Type} {x d : α} {n i : Nat} (h : i < n) : nth (List.replicate n x) i d = x := by
  rw [nth_eq (by rw [List.length_replicate]; exact h), List.getElem_replicate]
theorem pipe2 {k : Nat} {x : Nd} (h : k ≠ 0) : pipeR false (List.replicate (k + 1) x) = ndK 2 (List.replicate (k + 1) x) := by
  obtain ⟨j, rfl⟩ : ∃ j, k = j + 1 := ⟨k - 1, by omega⟩
  rfl
theorem textC_len {t : List UInt8} {N : Nat} (hN : N ≤ 1048576) (h : t.length ≤ N) : (textC t).length ≤ N + 21 := by
  have := itoa_len (n := (t.length : Int)) (by omega)
  unfold textC
  simp only [List.length_append, List.length_cons, List.length_nil]; omega
theorem wordsC_bound {N : Nat} (hN : N ≤ 1048576) : ∀ ws : List (List UInt8), (∀ w ∈ ws, w.length ≤ N) → (wordsC ws).length ≤ ws.length * (N + 22)
  | [], _ => by simp [wordsC]
  | w :: ws, h => by
    have ih := wordsC_bound hN ws (fun u hu => h u (List.mem_cons_of_mem _ hu))
    have h1 := textC_len hN (h w List.mem_cons_self)
    unfold wordsC at ih ⊢
    rw [List.flatMap_cons, List.length_append, List.length_append, List.length_singleton, List.length_cons, Nat.add_mul]
    omega
theorem simpQ_len {l : List (List UInt8)} (h1 : l.length ≤ 30) (h2 : (blockS l).length ≤ 2000) : (codeP (simpQ l)).length ≤ 9223372036854775807 := by
  have h3 := wordsC_bound (N := 2000) (by omega) (l.map wordQ) (fun w hw => by
    obtain ⟨t, ht, rfl⟩ := List.mem_map.1 hw
    have := wordQ_block ht
    omega)
  rw [List.length_map] at h3
  have h4 := itoa_len (n := ((1 : Nat) : Int)) (by omega)
  have h5 : (textC []).length ≤ 0 + 21 := textC_len (by omega) (Nat.le_refl 0)
  have h6 : l.length * (2000 + 22) ≤ 30 * 2022 := Nat.mul_le_mul h1 (Nat.le_refl _)
  unfold simpQ
  rw [codeP]
  have h7 : (rdrsC []).length = 0 := rfl
  have h8 : (codesP []).length = 0 := by rw [codesP]; rfl
  simp only [List.length_append, List.length_cons, List.length_nil, Bool.false_eq_true, if_false]
  omega
theorem simpQ_K (l : List (List UInt8)) : NdK (simpQ l) := by
  unfold simpQ NdK
  exact ⟨by omega, fun r h => (by cases h), by unfold NdsK; trivial⟩
set_option maxRecDepth 10000 in
set_option maxHeartbeats 1000000 in
theorem parseWords_pure (vl : Value) (l : List (List UInt8)) (pp : Int) (w : World) (hll : l.length ≤ 1048576) (htl : totS l ≤ 1048576) (hv : Sl (look w) 1 vl (l.map stC)) (hG : EnvI (look w)) : Pure Tryz.prog 5 [vl, .int .i64 pp] w (.bool true) := by
  have hm5 := tmod5 pp
  obtain ⟨kk, hkk, hk5⟩ := tmod5_nat pp
  have hbl := blockS_len l
  refine enter Tryz.func5 rfl Tryz.ntmps5 rfl (St.start w (look w) (Le.refl _)) ?_
  refine t_seq ?_
  refine t_region ?_
  refine l_q rfl rfl rfl (q_assign rfl rfl) ?_
  refine l_nil ?_
  refine n_then ?_
  refine t_seq ?_
  refine t_seq ?_
  refine t_region ?_
  refine l_q rfl rfl rfl (quiet_call rfl rfl rfl Tryz.func8 (by kernel_rfl) rfl ((fun w hw => awake_pure w (hG.mono hw.le)))) ?_
  refine l_q rfl rfl rfl (q_not rfl rfl) ?_
  refine l_nil ?_
  refine n_then ?_
  refine t_cond rfl (fun hc0 => ?_) (fun hc0 => ?_)
  · skip
    try simp at hc0
  · skip
    try simp at hc0
    refine t_skip ?_
    refine n_then ?_
    refine t_seq ?_
    refine t_seq ?_
    refine t_qreg ?_
    refine s_q rfl rfl rfl (q_move rfl rfl) ?_
    refine s_q rfl rfl rfl ((by first | exact q_lenV rfl Tryz.underlying25 rfl | exact q_len rfl Tryz.underlying25 rfl (Sl.lenOf hv (List.length_map _)) | exact q_len rfl Tryz.underlying25 rfl (Sl.lenOf (hvq.mono hJ55) (List.length_map _)) | exact q_len rfl Tryz.underlying25 rfl (Sl.lenOf hwv (List.length_map _)) | exact q_len rfl Tryz.underlying25 rfl (Sl.lenOf ((hvq.mono hJ55).mono hJ117) (List.length_map _)) | exact q_len rfl Tryz.underlying25 rfl (Sl.lenOf hkv (List.length_map _)))) ?_
    refine s_q rfl rfl rfl (q_eql rfl rfl rfl) ?_
    refine s_q rfl rfl rfl (q_move rfl rfl) ?_
    refine s_or2 3 3 27 31 30 _ _ rfl rfl rfl rfl rfl rfl (fun h31 => by
        try simp at h31
        refine s_g rfl rfl rfl rfl rfl rfl (q_move rfl rfl) ?_
        refine s_g rfl rfl rfl rfl rfl rfl ((by first | exact q_lenV rfl Tryz.underlying25 rfl | exact q_len rfl Tryz.underlying25 rfl (Sl.lenOf hv (List.length_map _)) | exact q_len rfl Tryz.underlying25 rfl (Sl.lenOf (hvq.mono hJ55) (List.length_map _)) | exact q_len rfl Tryz.underlying25 rfl (Sl.lenOf hwv (List.length_map _)) | exact q_len rfl Tryz.underlying25 rfl (Sl.lenOf ((hvq.mono hJ55).mono hJ117) (List.length_map _)) | exact q_len rfl Tryz.underlying25 rfl (Sl.lenOf hkv (List.length_map _)))) ?_
        refine s_g rfl rfl rfl rfl rfl rfl (q_gtr rfl rfl rfl) ?_
        exact s_val rfl
      ) (wanted_n rfl) rfl rfl rfl ?_
    refine s_done ?_
    refine n_then ?_
    refine t_cond rfl (fun hc1 => ?_) (fun hc1 => ?_)
    · skip
      refine t_seq ?_
      refine t_region ?_
      refine l_q rfl rfl rfl (q_assign rfl rfl) ?_
      refine l_nil ?_
      refine n_then ?_
      refine t_ret ?_
      refine n_ret_then ?_
      refine n_ret1 rfl rfl (fun w' hw => ?_)
      -- leaf 0
      exact ⟨rfl, hw.below⟩
    · skip
      have h1 := hc1
      rw [Bool.or_eq_false_iff, decide_eq_false_iff_not, decide_eq_false_iff_not] at h1
      have hl0 : l ≠ [] := fun h => by rw [h] at h1; exact h1.1 rfl
      refine t_skip ?_
      refine n_then ?_
      refine t_seq ?_
      refine t_region ?_
      refine l_q rfl rfl rfl (q_assign rfl rfl) ?_
      refine l_nil ?_
      refine n_then ?_
      refine t_seq ?_
      refine t_region ?_
      refine l_q rfl rfl rfl (q_assign rfl rfl) ?_
      refine l_nil ?_
      refine n_then ?_
      refine t_seq ?_
      refine t_seq ?_
      refine t_region ?_
      refine l_q rfl rfl rfl (q_move rfl rfl) ?_
      refine l_q rfl rfl rfl ((by first | exact q_lenV rfl Tryz.underlying25 rfl | exact q_len rfl Tryz.underlying25 rfl (Sl.lenOf hv (List.length_map _)) | exact q_len rfl Tryz.underlying25 rfl (Sl.lenOf (hvq.mono hJ55) (List.length_map _)) | exact q_len rfl Tryz.underlying25 rfl (Sl.lenOf hwv (List.length_map _)) | exact q_len rfl Tryz.underlying25 rfl (Sl.lenOf ((hvq.mono hJ55).mono hJ117) (List.length_map _)) | exact q_len rfl Tryz.underlying25 rfl (Sl.lenOf hkv (List.length_map _)))) ?_
      refine l_q rfl rfl rfl (q_move rfl rfl) ?_
      refine l_nil ?_
      refine n_then ?_
      refine t_block ?_
      refine t_loopE (ι := Nat × Value) (fun zz => zz.1 ≤ l.length) (fun zz => l.length - zz.1) (fun zz => [(34, .int .i64 (zz.1 : Int)), (5, str (blockS (l.take zz.1))), (6, zz.2)]) [(0, _), (1, _), (4, _), (23, _), (31, _), (32, _), (33, _)] (fun zz => look w) (fun zz => [tvec 9 1 stC zz.2 ((l.take zz.1).map wordQ)]) (0, .slice none 0 0) ?_ (sub_cons rfl (sub_cons rfl (sub_cons rfl sub_nil))) (sub_cons rfl (sub_cons rfl (sub_cons rfl (sub_cons rfl (sub_cons rfl (sub_cons rfl (sub_cons rfl sub_nil))))))) (fun _ h => st_nilT 9 1 stC h) ?_
      · try dsimp only
        exact Nat.zero_le _
      rintro ⟨k, v⟩ hk
      try dsimp only at *
      have hmk : ((l.take k).map wordQ).length = k := by rw [List.length_map, List.length_take]; omega
      refine t_seq ?_
      refine t_region ?_
      refine l_q rfl rfl rfl (q_lss rfl rfl rfl) ?_
      refine l_nil ?_
      refine n_then ?_
      refine t_seq ?_
      refine t_cond rfl (fun hc2 => ?_) (fun hc2 => ?_)
      · skip
        try simp at hc2
        have hbs := blockS_snoc (l := l) (k := k) (by omega)
        have hbk := blockS_len (l.take k)
        have htk := totS_take l k
        have hkl2 : (l.take k).length = k := by rw [List.length_take]; omega
        have hqn := wordQ_len (nth l k [])
        have htm := totS_mem (nth_mem (l := l) (i := k) (d := []) (by omega))
        have hwql : (wordQ (nth l k [])).length = 3 + (quoteB (nth l k [])).length := by unfold wordQ; simp only [List.length_append, List.length_cons, List.length_nil]
        refine t_skip ?_
        refine n_then ?_
        refine t_seq ?_
        refine t_block ?_
        refine t_seq ?_
        refine t_region ?_
        refine l_q rfl rfl rfl ((by first | exact q_indexAddrVN rfl Tryz.underlying25 ti9 rfl rfl (by omega) | exact q_indexAddrN rfl Tryz.underlying25 ti9 rfl rfl (Sl.shape hv (List.length_map _)) (by omega) | exact q_indexAddrN rfl Tryz.underlying25 ti9 rfl rfl (Sl.shape hwv (List.length_map _)) (by omega) | exact q_indexAddrN rfl Tryz.underlying25 ti9 rfl rfl (Sl.shape (hvq.mono hJ55) (List.length_map _)) (by omega) | exact q_indexAddrN rfl Tryz.underlying25 ti9 rfl rfl (Sl.shape hkv (List.length_map _)) (by omega) | exact q_indexAddrV rfl Tryz.underlying25 ti9 rfl rfl (by omega) | exact q_indexAddr rfl Tryz.underlying25 ti9 rfl rfl (Sl.shape hv (List.length_map _)) (by omega) | exact q_indexAddr rfl Tryz.underlying25 ti9 rfl rfl (Sl.shape hwv (List.length_map _)) (by omega) | exact q_indexAddr rfl Tryz.underlying25 ti9 rfl rfl (Sl.shape (hvq.mono hJ55) (List.length_map _)) (by omega) | exact q_indexAddr rfl Tryz.underlying25 ti9 rfl rfl (Sl.shape hkv (List.length_map _)) (by omega))) ?_
        refine l_q rfl rfl rfl ((by first | exact q_load_row rfl Tryz.underlying9 rfl rfl (by rfl) | exact q_load rfl Tryz.underlying9 rfl rfl (rd_st (i := k) hv (by omega)) | exact q_load rfl Tryz.underlying9 rfl rfl (rd_st (i := i) hwv (by rw [List.length_map]; omega)) | exact q_load rfl Tryz.underlying9 rfl rfl (rd_st (i := i) (hvq.mono hJ55) (by rw [List.length_map]; omega)))) ?_
        refine l_q rfl rfl rfl (q_assign rfl rfl) ?_
        refine l_nil ?_
        refine n_then ?_
        refine t_seq ?_
        refine t_region ?_
        refine l_q rfl rfl rfl (q_move rfl rfl) ?_
        refine l_q rfl rfl rfl (quiet_call rfl rfl rfl Tryz.func12 (by kernel_rfl) rfl ((fun w hw => quote_pure (nth l k []) w (by have := totS_mem (nth_mem (l := l) (i := k) (d := []) (by omega)); omega) (hG.mono hw.le)))) ?_
        refine l_q rfl rfl rfl (q_cat rfl rfl rfl (by first | omega | (simp only [List.length_append, List.length_cons, List.length_nil, List.length_take, List.length_drop]; omega))) ?_
        refine l_q rfl rfl rfl (q_assign rfl rfl) ?_
        refine l_nil ?_
        refine n_then ?_
        refine t_seq ?_
        refine t_region ?_
        refine l_q rfl rfl rfl (q_move rfl rfl) ?_
        refine l_q rfl rfl rfl (q_move rfl rfl) ?_
        refine l_e rfl rfl rfl (e_buildSlice1 rfl Tryz.underlying25 ti9 rfl rfl rfl (by first | exact One.cells (by assumption) | rfl) rfl) ?_
        rintro _ _ _ ⟨b43, rfl, rfl, rfl⟩
        refine l_e rfl rfl rfl (e_appendT (f := stC) (c := wordQ (nth l k [])) rfl Tryz.underlying25 ti9 rfl rfl rfl rfl rfl rfl rfl (by first | exact stC_ones _ | exact byC_ones _ | exact chC_ones _ | exact pcC_ones _ | simp [Value.oneCell', str, u8] | exact ones1 (by assumption)) (by simp only [maxLen]; omega) (by omega)) ?_
        rintro v44 _ _ ⟨rfl, rfl⟩
        refine l_q rfl rfl rfl (q_assign rfl rfl) ?_
        refine l_nil ?_
        refine n_then ?_
        refine t_region ?_
        refine l_q rfl rfl rfl (q_move rfl rfl) ?_
        refine l_q rfl rfl rfl (q_move rfl rfl) ?_
        refine l_q rfl rfl rfl (q_cat rfl rfl rfl (by first | omega | (simp only [List.length_append, List.length_cons, List.length_nil, List.length_take, List.length_drop]; omega))) ?_
        refine l_q rfl rfl rfl (q_cat rfl rfl rfl (by first | omega | (simp only [List.length_append, List.length_cons, List.length_nil, List.length_take, List.length_drop]; omega))) ?_
        refine l_q rfl rfl rfl (q_assign rfl rfl) ?_
        refine l_nil ?_
        refine n_block ?_
        refine n_then ?_
        refine t_region ?_
        refine l_q rfl rfl rfl (q_add64 rfl rfl rfl (by omega)) ?_
        refine l_q rfl rfl rfl (q_move rfl rfl) ?_
        refine l_nil ?_
        refine n_roundE ((k + 1, v44)) ?_ ?_ (sub_cons rfl (sub_cons' rfl (by rw [hbs]; rfl) (sub_cons rfl sub_nil))) (sub_cons rfl (sub_cons rfl (sub_cons rfl (sub_cons rfl (sub_cons rfl (sub_cons rfl (sub_cons rfl sub_nil))))))) (fun _ h => by dsimp only; rw [mapQ_snoc (l := l) (k := k) (by omega)]; exact subC_st h)
        · try dsimp only
          show k + 1 ≤ l.length
          omega
        · try dsimp only
          show l.length - (k + 1) < l.length - k
          omega
      · skip
        try simp at hc2
        refine t_exit ?_
        refine n_exit_then ?_
        refine n_exit_then ?_
        refine n_exit_block ?_
        refine n_then ?_
        refine t_seq ?_
        refine t_seq ?_
        rw [List.take_of_length_le (by omega)]
        refine t_freezeT (f := stC) (l := l.map wordQ) v (fun _ => rfl) (fun Jq hJq hvq => ?_)
        refine t_region ?_
        refine l_q rfl rfl rfl (q_move rfl rfl) ?_
        refine l_q rfl rfl rfl (q_len_str rfl Tryz.underlying9 rfl) ?_
        refine l_q rfl rfl rfl (q_gtr rfl rfl rfl) ?_
        refine l_nil ?_
        refine n_then ?_
        refine t_cond rfl (fun hc3 => ?_) (fun hc3 => ?_)
        · skip
          try simp at hc3
          refine t_seq ?_
          refine t_region ?_
          refine l_q rfl rfl rfl (q_assign rfl rfl) ?_
          refine l_nil ?_
          refine n_then ?_
          refine t_ret ?_
          refine n_ret_then ?_
          refine n_ret1 rfl rfl (fun w' hw => ?_)
          -- leaf 1
          exact ⟨rfl, (hw.less hJq).below⟩
        · skip
          try simp at hc3
          have hs : (blockS l).length ≤ 2000 := by omega
          have hq4 : ∀ t ∈ l, (wordQ t).length ≤ 4096 := fun t ht => by have := wordQ_block ht; omega
          refine t_skip ?_
          refine n_then ?_
          refine t_seq ?_
          refine t_region ?_
          refine l_q rfl rfl rfl (q_move rfl rfl) ?_
          refine l_e rfl rfl rfl (eff_call rfl rfl rfl Tryz.func9 (by kernel_rfl) rfl (fun w hw => first_calls (blockS l) (by omega) (0) _ _ _ w (hG.mono hJq) hw)) ?_
          rintro _ J55 _ ⟨hJ55, rfl, c55, rfl, hn55⟩
          have hfw := first_words (l := l) (k := 0) (by rw [List.length_append, tailS_len]; omega) hl0 hq4
          rw [show blockS l ++ tailS l 0 = blockS l from List.append_nil _] at hfw
          rw [hfw] at hn55 ⊢
          dsimp only at hn55 ⊢
          have hq55 : NdAt J55 (simpQ l) c55 := hn55
          obtain ⟨hk55, hwv⟩ := at1 hq55
          have hml : (l.map wordQ).length = l.length := List.length_map _
          refine l_q rfl rfl rfl (q_move rfl rfl) ?_
          refine l_q rfl rfl rfl (q_extract rfl rfl rfl) ?_
          refine l_q rfl rfl rfl (q_extract rfl rfl rfl) ?_
          refine l_q rfl rfl rfl (q_extract rfl rfl rfl) ?_
          refine l_q rfl rfl rfl (q_extract rfl rfl rfl) ?_
          refine l_q rfl rfl rfl (q_extract rfl rfl rfl) ?_
          refine l_e rfl rfl rfl (e_alloc rfl ti29 rfl) ?_
          rintro _ _ _ ⟨b10, rfl, rfl, rfl⟩
          refine l_e0 rfl rfl ((by first | exact e_store_all rfl ti29 rfl rfl rfl (by first | exact chC_ones _ | exact pcC_ones _ | exact hn55.ones | exact hn117.ones | simp [Value.oneCell', str, u8]) rfl | exact e_store_agg rfl ti29 rfl rfl rfl (by first | exact chC_ones _ | exact pcC_ones _ | exact hn55.ones | exact hn117.ones | simp [Value.oneCell', str, u8]) rfl)) ?_
          rintro _ _ _ ⟨rfl, rfl⟩
          refine l_heap (H' := row b10 29 (ncC c55) :: _) ?_ (fun _ h => h)
          refine l_q rfl rfl rfl (q_assign rfl rfl) ?_
          refine l_q rfl rfl rfl (q_assign rfl rfl) ?_
          refine l_q rfl rfl rfl (q_assign rfl rfl) ?_
          refine l_q rfl rfl rfl (q_assign rfl rfl) ?_
          refine l_nil ?_
          refine n_then ?_
          refine t_seq ?_
          refine t_seq ?_
          refine t_qreg ?_
          refine s_q rfl rfl rfl (q_move rfl rfl) ?_
          refine s_q rfl rfl rfl (q_neq rfl rfl rfl) ?_
          refine s_q rfl rfl rfl (q_move rfl rfl) ?_
          refine s_or2 2 2 63 66 65 _ _ rfl rfl rfl rfl rfl rfl (fun h66 => by
              try simp at h66
              refine s_g rfl rfl rfl rfl rfl rfl (q_move rfl rfl) ?_
              refine s_g rfl rfl rfl rfl rfl rfl (q_not rfl rfl) ?_
              exact s_val rfl
            ) (wanted_n rfl) rfl rfl rfl ?_
          refine s_q rfl rfl rfl (q_move rfl rfl) ?_
          refine s_or2 4 6 67 72 71 _ _ rfl rfl rfl rfl rfl rfl (fun h72 => by
              try simp at h72
              refine s_g rfl rfl rfl rfl rfl rfl (q_move rfl rfl) ?_
              refine s_g rfl rfl rfl rfl rfl rfl (q_move rfl rfl) ?_
              refine s_g rfl rfl rfl rfl rfl rfl (q_len_str rfl Tryz.underlying9 rfl) ?_
              refine s_g rfl rfl rfl rfl rfl rfl (q_neq rfl rfl rfl) ?_
              exact s_val rfl
            ) (wanted_n rfl) rfl rfl rfl ?_
          refine s_q rfl rfl rfl (q_move rfl rfl) ?_
          refine s_or2 3 12 73 77 76 _ _ rfl rfl rfl rfl rfl rfl (fun h77 => by
              try simp at h77
              refine s_g rfl rfl rfl rfl rfl rfl (q_fieldAddr rfl Tryz.underlying29 rfl rfl ti3 rfl rfl) ?_
              refine s_g rfl rfl rfl rfl rfl rfl ((by first | exact q_load_row rfl Tryz.underlying3 rfl rfl (by rfl) | exact q_load rfl Tryz.underlying3 rfl rfl (rd_st (i := k) hv (by omega)) | exact q_load rfl Tryz.underlying3 rfl rfl (rd_st (i := i) hwv (by rw [List.length_map]; omega)) | exact q_load rfl Tryz.underlying3 rfl rfl (rd_st (i := i) (hvq.mono hJ55) (by rw [List.length_map]; omega)))) ?_
              refine s_g rfl rfl rfl rfl rfl rfl (q_neq rfl rfl rfl) ?_
              exact s_val rfl
            ) (wanted_n rfl) rfl rfl rfl ?_
          refine s_q rfl rfl rfl (q_move rfl rfl) ?_
          refine s_or2 6 17 78 85 84 _ _ rfl rfl rfl rfl rfl rfl (fun h85 => by
              try simp at h85
              refine s_g rfl rfl rfl rfl rfl rfl (q_fieldAddr rfl Tryz.underlying29 rfl rfl ti25 rfl rfl) ?_
              refine s_g rfl rfl rfl rfl rfl rfl ((by first | exact q_load_row rfl Tryz.underlying25 rfl rfl (by rfl) | exact q_load rfl Tryz.underlying25 rfl rfl (rd_st (i := k) hv (by omega)) | exact q_load rfl Tryz.underlying25 rfl rfl (rd_st (i := i) hwv (by rw [List.length_map]; omega)) | exact q_load rfl Tryz.underlying25 rfl rfl (rd_st (i := i) (hvq.mono hJ55) (by rw [List.length_map]; omega)))) ?_
              refine s_g rfl rfl rfl rfl rfl rfl ((by first | exact q_lenV rfl Tryz.underlying25 rfl | exact q_len rfl Tryz.underlying25 rfl (Sl.lenOf hv (List.length_map _)) | exact q_len rfl Tryz.underlying25 rfl (Sl.lenOf (hvq.mono hJ55) (List.length_map _)) | exact q_len rfl Tryz.underlying25 rfl (Sl.lenOf hwv (List.length_map _)) | exact q_len rfl Tryz.underlying25 rfl (Sl.lenOf ((hvq.mono hJ55).mono hJ117) (List.length_map _)) | exact q_len rfl Tryz.underlying25 rfl (Sl.lenOf hkv (List.length_map _)))) ?_
              refine s_g rfl rfl rfl rfl rfl rfl (q_move rfl rfl) ?_
              refine s_g rfl rfl rfl rfl rfl rfl ((by first | exact q_lenV rfl Tryz.underlying25 rfl | exact q_len rfl Tryz.underlying25 rfl (Sl.lenOf hv (List.length_map _)) | exact q_len rfl Tryz.underlying25 rfl (Sl.lenOf (hvq.mono hJ55) (List.length_map _)) | exact q_len rfl Tryz.underlying25 rfl (Sl.lenOf hwv (List.length_map _)) | exact q_len rfl Tryz.underlying25 rfl (Sl.lenOf ((hvq.mono hJ55).mono hJ117) (List.length_map _)) | exact q_len rfl Tryz.underlying25 rfl (Sl.lenOf hkv (List.length_map _)))) ?_
              refine s_g rfl rfl rfl rfl rfl rfl (q_neq rfl rfl rfl) ?_
              exact s_val rfl
            ) (wanted_n rfl) rfl rfl rfl ?_
          refine s_done ?_
          refine n_then ?_
          refine t_cond rfl (fun hc4 => ?_) (fun hc4 => ?_)
          · skip
            exfalso
            simp [hk55, hml] at hc4
          · skip
            refine t_skip ?_
            refine n_then ?_
            refine t_seq ?_
            refine t_seq ?_
            refine t_region ?_
            refine l_q rfl rfl rfl (q_move rfl rfl) ?_
            refine l_q rfl rfl rfl ((by first | exact q_lenV rfl Tryz.underlying25 rfl | exact q_len rfl Tryz.underlying25 rfl (Sl.lenOf hv (List.length_map _)) | exact q_len rfl Tryz.underlying25 rfl (Sl.lenOf (hvq.mono hJ55) (List.length_map _)) | exact q_len rfl Tryz.underlying25 rfl (Sl.lenOf hwv (List.length_map _)) | exact q_len rfl Tryz.underlying25 rfl (Sl.lenOf ((hvq.mono hJ55).mono hJ117) (List.length_map _)) | exact q_len rfl Tryz.underlying25 rfl (Sl.lenOf hkv (List.length_map _)))) ?_
            refine l_q rfl rfl rfl (q_move rfl rfl) ?_
            refine l_nil ?_
            refine n_then ?_
            refine t_block ?_
            refine t_loopE (ι := Nat) (fun zz => zz ≤ l.length) (fun zz => l.length - zz) (fun zz => [(88, .int .i64 (zz : Int))]) [(34, _), (5, _), (6, _), (0, _), (1, _), (23, _), (31, _), (32, _), (33, _), (35, _), (52, _), (10, _), (11, _), (12, _), (14, _), (85, _), (87, _)] (fun zz => J55) (fun zz => [row b10 29 (ncC c55)]) 0 ?_ (sub_cons rfl sub_nil) (sub_cons rfl (sub_cons rfl (sub_cons rfl (sub_cons rfl (sub_cons rfl (sub_cons rfl (sub_cons rfl (sub_cons rfl (sub_cons rfl (sub_cons rfl (sub_cons rfl (sub_cons rfl (sub_cons rfl (sub_cons rfl (sub_cons rfl (sub_cons rfl (sub_cons rfl sub_nil))))))))))))))))) (fun _ h => subC_st h) ?_
            · try dsimp only
              exact Nat.zero_le _
            rintro i hi
            try dsimp only at *
            refine t_seq ?_
            refine t_region ?_
            refine l_q rfl rfl rfl (q_lss rfl rfl rfl) ?_
            refine l_nil ?_
            refine n_then ?_
            refine t_seq ?_
            refine t_cond rfl (fun hc5 => ?_) (fun hc5 => ?_)
            · skip
              try simp at hc5
              refine t_skip ?_
              refine n_then ?_
              refine t_seq ?_
              refine t_block ?_
              refine t_seq ?_
              refine t_region ?_
              refine l_q rfl rfl rfl (q_move rfl rfl) ?_
              refine l_q rfl rfl rfl (q_assign rfl rfl) ?_
              refine l_nil ?_
              refine n_then ?_
              refine t_seq ?_
              refine t_qdraw mo (by kernel_rfl) (fun _ _ _ _ _ h => h) ?_
              refine s_q rfl rfl rfl (q_fieldAddr rfl Tryz.underlying29 rfl rfl ti25 rfl rfl) ?_
              refine s_q rfl rfl rfl ((by first | exact q_load_row rfl Tryz.underlying25 rfl rfl (by rfl) | exact q_load rfl Tryz.underlying25 rfl rfl (rd_st (i := k) hv (by omega)) | exact q_load rfl Tryz.underlying25 rfl rfl (rd_st (i := i) hwv (by rw [List.length_map]; omega)) | exact q_load rfl Tryz.underlying25 rfl rfl (rd_st (i := i) (hvq.mono hJ55) (by rw [List.length_map]; omega)))) ?_
              refine s_q rfl rfl rfl (q_move rfl rfl) ?_
              refine s_q rfl rfl rfl ((by first | exact q_indexAddrVN rfl Tryz.underlying25 ti9 rfl rfl (by omega) | exact q_indexAddrN rfl Tryz.underlying25 ti9 rfl rfl (Sl.shape hv (List.length_map _)) (by omega) | exact q_indexAddrN rfl Tryz.underlying25 ti9 rfl rfl (Sl.shape hwv (List.length_map _)) (by omega) | exact q_indexAddrN rfl Tryz.underlying25 ti9 rfl rfl (Sl.shape (hvq.mono hJ55) (List.length_map _)) (by omega) | exact q_indexAddrN rfl Tryz.underlying25 ti9 rfl rfl (Sl.shape hkv (List.length_map _)) (by omega) | exact q_indexAddrV rfl Tryz.underlying25 ti9 rfl rfl (by omega) | exact q_indexAddr rfl Tryz.underlying25 ti9 rfl rfl (Sl.shape hv (List.length_map _)) (by omega) | exact q_indexAddr rfl Tryz.underlying25 ti9 rfl rfl (Sl.shape hwv (List.length_map _)) (by omega) | exact q_indexAddr rfl Tryz.underlying25 ti9 rfl rfl (Sl.shape (hvq.mono hJ55) (List.length_map _)) (by omega) | exact q_indexAddr rfl Tryz.underlying25 ti9 rfl rfl (Sl.shape hkv (List.length_map _)) (by omega))) ?_
              refine s_q rfl rfl rfl ((by first | exact q_load_row rfl Tryz.underlying9 rfl rfl (by rfl) | exact q_load rfl Tryz.underlying9 rfl rfl (rd_st (i := k) hv (by omega)) | exact q_load rfl Tryz.underlying9 rfl rfl (rd_st (i := i) hwv (by rw [List.length_map]; omega)) | exact q_load rfl Tryz.underlying9 rfl rfl (rd_st (i := i) (hvq.mono hJ55) (by rw [List.length_map]; omega)))) ?_
              refine s_q rfl rfl rfl (q_move rfl rfl) ?_
              refine s_q rfl rfl rfl (q_move rfl rfl) ?_
              refine s_q rfl rfl rfl ((by first | exact q_indexAddrVN rfl Tryz.underlying25 ti9 rfl rfl (by omega) | exact q_indexAddrN rfl Tryz.underlying25 ti9 rfl rfl (Sl.shape hv (List.length_map _)) (by omega) | exact q_indexAddrN rfl Tryz.underlying25 ti9 rfl rfl (Sl.shape hwv (List.length_map _)) (by omega) | exact q_indexAddrN rfl Tryz.underlying25 ti9 rfl rfl (Sl.shape (hvq.mono hJ55) (List.length_map _)) (by omega) | exact q_indexAddrN rfl Tryz.underlying25 ti9 rfl rfl (Sl.shape hkv (List.length_map _)) (by omega) | exact q_indexAddrV rfl Tryz.underlying25 ti9 rfl rfl (by omega) | exact q_indexAddr rfl Tryz.underlying25 ti9 rfl rfl (Sl.shape hv (List.length_map _)) (by omega) | exact q_indexAddr rfl Tryz.underlying25 ti9 rfl rfl (Sl.shape hwv (List.length_map _)) (by omega) | exact q_indexAddr rfl Tryz.underlying25 ti9 rfl rfl (Sl.shape (hvq.mono hJ55) (List.length_map _)) (by omega) | exact q_indexAddr rfl Tryz.underlying25 ti9 rfl rfl (Sl.shape hkv (List.length_map _)) (by omega))) ?_
              refine s_q rfl rfl rfl ((by first | exact q_load_row rfl Tryz.underlying9 rfl rfl (by rfl) | exact q_load rfl Tryz.underlying9 rfl rfl (rd_st (i := k) hv (by omega)) | exact q_load rfl Tryz.underlying9 rfl rfl (rd_st (i := i) hwv (by rw [List.length_map]; omega)) | exact q_load rfl Tryz.underlying9 rfl rfl (rd_st (i := i) (hvq.mono hJ55) (by rw [List.length_map]; omega)))) ?_
              refine s_q rfl rfl rfl (q_neq_str rfl rfl rfl) ?_
              refine s_done ?_
              refine n_then ?_
              refine t_cond rfl (fun hc6 => ?_) (fun hc6 => ?_)
              · skip
                exfalso
                simp at hc6
              · skip
                refine t_skip ?_
                refine n_block ?_
                refine n_then ?_
                refine t_region ?_
                refine l_q rfl rfl rfl (q_add64 rfl rfl rfl (by omega)) ?_
                refine l_q rfl rfl rfl (q_move rfl rfl) ?_
                refine l_nil ?_
                refine n_roundE (i + 1) ?_ ?_ (sub_cons rfl sub_nil) (sub_cons rfl (sub_cons rfl (sub_cons rfl (sub_cons rfl (sub_cons rfl (sub_cons rfl (sub_cons rfl (sub_cons rfl (sub_cons rfl (sub_cons rfl (sub_cons rfl (sub_cons rfl (sub_cons rfl (sub_cons rfl (sub_cons rfl (sub_cons rfl (sub_cons rfl sub_nil))))))))))))))))) (fun _ h => by try dsimp only; exact subC_st h)
                · try dsimp only
                  omega
                · try dsimp only
                  omega
            · skip
              try simp at hc5
              refine t_exit ?_
              refine n_exit_then ?_
              refine n_exit_then ?_
              refine n_exit_block ?_
              refine n_then ?_
              refine t_seq ?_
              refine t_region ?_
              refine l_q rfl rfl rfl (q_move rfl rfl) ?_
              refine l_q rfl rfl rfl (q_rem rfl rfl rfl (by decide)) ?_
              refine l_q rfl rfl rfl (q_add64 rfl rfl rfl (by omega)) ?_
              refine l_q rfl rfl rfl (q_rem rfl rfl rfl (by decide)) ?_
              rw [hkk]
              refine l_q rfl rfl rfl (q_assign rfl rfl) ?_
              refine l_nil ?_
              refine n_then ?_
              refine t_seq ?_
              refine t_region ?_
              refine l_q rfl rfl rfl (q_move rfl rfl) ?_
              refine l_q rfl rfl rfl (q_assign rfl rfl) ?_
              refine l_nil ?_
              refine n_then ?_
              refine t_seq ?_
              refine t_seq ?_
              refine t_region ?_
              refine l_q rfl rfl rfl (q_move rfl rfl) ?_
              refine l_q rfl rfl rfl (q_move rfl rfl) ?_
              refine l_nil ?_
              refine n_then ?_
              refine t_block ?_
              refine t_loopE (ι := Nat × List UInt8) (fun zz => zz.1 ≤ kk ∧ zz.2 = blockS l ++ tailS l zz.1) (fun zz => kk - zz.1) (fun zz => [(108, .int .i64 (zz.1 : Int)), (17, str zz.2)]) [(88, _), (34, _), (5, _), (6, _), (0, _), (1, _), (23, _), (31, _), (32, _), (33, _), (35, _), (52, _), (10, _), (11, _), (12, _), (14, _), (85, _), (87, _), (89, _), (16, _), (107, _)] (fun zz => J55) (fun zz => [row b10 29 (ncC c55)]) (0, blockS l) ?_ (sub_cons rfl (sub_cons rfl sub_nil)) (sub_cons rfl (sub_cons rfl (sub_cons rfl (sub_cons rfl (sub_cons rfl (sub_cons rfl (sub_cons rfl (sub_cons rfl (sub_cons rfl (sub_cons rfl (sub_cons rfl (sub_cons rfl (sub_cons rfl (sub_cons rfl (sub_cons rfl (sub_cons rfl (sub_cons rfl (sub_cons rfl (sub_cons rfl (sub_cons rfl (sub_cons rfl sub_nil))))))))))))))))))))) (fun _ h => subC_st h) ?_
              · try dsimp only
                exact ⟨Nat.zero_le _, by simp [tailS]⟩
              rintro ⟨i, x⟩ ⟨hi, hx⟩
              try dsimp only at *
              have hxl := congrArg List.length hx
              rw [List.length_append, tailS_len] at hxl
              have hxm := Nat.mul_le_mul (show i ≤ 5 by omega) (show (blockS l).length + 2 ≤ 2002 by omega)
              refine t_seq ?_
              refine t_region ?_
              refine l_q rfl rfl rfl (q_lss rfl rfl rfl) ?_
              refine l_nil ?_
              refine n_then ?_
              refine t_seq ?_
              refine t_cond rfl (fun hc7 => ?_) (fun hc7 => ?_)
              · skip
                try simp at hc7
                refine t_skip ?_
                refine n_then ?_
                refine t_seq ?_
                refine t_block ?_
                refine t_region ?_
                refine l_q rfl rfl rfl (q_move rfl rfl) ?_
                refine l_q rfl rfl rfl (q_move rfl rfl) ?_
                refine l_q rfl rfl rfl (q_cat rfl rfl rfl (by first | omega | (simp only [List.length_append, List.length_cons, List.length_nil, List.length_take, List.length_drop]; omega))) ?_
                refine l_q rfl rfl rfl (q_cat rfl rfl rfl (by first | omega | (simp only [List.length_append, List.length_cons, List.length_nil, List.length_take, List.length_drop]; omega))) ?_
                refine l_q rfl rfl rfl (q_assign rfl rfl) ?_
                refine l_nil ?_
                refine n_block ?_
                refine n_then ?_
                refine t_region ?_
                refine l_q rfl rfl rfl (q_add64 rfl rfl rfl (by omega)) ?_
                refine l_q rfl rfl rfl (q_move rfl rfl) ?_
                refine l_nil ?_
                refine n_roundE ((i + 1, x ++ ([124, 10] ++ blockS l))) ?_ ?_ (sub_cons rfl (sub_cons rfl sub_nil)) (sub_cons rfl (sub_cons rfl (sub_cons rfl (sub_cons rfl (sub_cons rfl (sub_cons rfl (sub_cons rfl (sub_cons rfl (sub_cons rfl (sub_cons rfl (sub_cons rfl (sub_cons rfl (sub_cons rfl (sub_cons rfl (sub_cons rfl (sub_cons rfl (sub_cons rfl (sub_cons rfl (sub_cons rfl (sub_cons rfl (sub_cons rfl sub_nil))))))))))))))))))))) (fun _ h => by try dsimp only; exact subC_st h)
                · try dsimp only
                  exact ⟨by omega, by rw [hx, tailS_snoc, List.append_assoc]⟩
                · try dsimp only
                  show kk - (i + 1) < kk - i
                  omega
              · skip
                try simp at hc7
                have hik : i = kk := by omega
                rw [hik] at hx
                rw [hx]
                refine t_exit ?_
                refine n_exit_then ?_
                refine n_exit_then ?_
                refine n_exit_block ?_
                refine n_then ?_
                refine t_seq ?_
                refine t_region ?_
                refine l_q rfl rfl rfl (q_move rfl rfl) ?_
                refine l_e rfl rfl rfl (eff_call rfl rfl rfl Tryz.func9 (by kernel_rfl) rfl (fun w hw => first_calls (blockS l ++ tailS l kk) (by rw [List.length_append, tailS_len]; have := Nat.mul_le_mul (show kk ≤ 5 by omega) (show (blockS l).length + 2 ≤ 2002 by omega); omega) (0) _ _ _ w (hG.mono (hJq.trans hJ55)) hw)) ?_
                rintro _ J117 _ ⟨hJ117, rfl, c117, rfl, hn117⟩
                have hfw2 := first_words (l := l) (k := kk) (by rw [List.length_append, tailS_len]; have := Nat.mul_le_mul (show kk ≤ 5 by omega) (show (blockS l).length + 2 ≤ 2002 by omega); omega) hl0 hq4
                rw [hfw2] at hn117 ⊢
                dsimp only at hn117 ⊢
                refine l_q rfl rfl rfl (q_move rfl rfl) ?_
                refine l_q rfl rfl rfl (q_extract rfl rfl rfl) ?_
                refine l_q rfl rfl rfl (q_extract rfl rfl rfl) ?_
                refine l_q rfl rfl rfl (q_extract rfl rfl rfl) ?_
                refine l_q rfl rfl rfl (q_extract rfl rfl rfl) ?_
                refine l_q rfl rfl rfl (q_extract rfl rfl rfl) ?_
                refine l_e rfl rfl rfl (e_alloc rfl ti29 rfl) ?_
                rintro _ _ _ ⟨b18, rfl, rfl, rfl⟩
                refine l_e0 rfl rfl ((by first | exact e_store_all rfl ti29 rfl rfl rfl (by first | exact chC_ones _ | exact pcC_ones _ | exact hn55.ones | exact hn117.ones | simp [Value.oneCell', str, u8]) rfl | exact e_store_agg rfl ti29 rfl rfl rfl (by first | exact chC_ones _ | exact pcC_ones _ | exact hn55.ones | exact hn117.ones | simp [Value.oneCell', str, u8]) rfl)) ?_
                rintro _ _ _ ⟨rfl, rfl⟩
                refine l_heap (H' := row b18 29 (ncC c117) :: _) ?_ (fun _ h => h)
                refine l_q rfl rfl rfl (q_assign rfl rfl) ?_
                refine l_q rfl rfl rfl (q_assign rfl rfl) ?_
                refine l_q rfl rfl rfl (q_assign rfl rfl) ?_
                refine l_q rfl rfl rfl (q_assign rfl rfl) ?_
                refine l_nil ?_
                refine n_then ?_
                refine t_seq ?_
                refine t_seq ?_
                refine t_qreg ?_
                refine s_q rfl rfl rfl (q_move rfl rfl) ?_
                refine s_q rfl rfl rfl (q_neq rfl rfl rfl) ?_
                refine s_q rfl rfl rfl (q_move rfl rfl) ?_
                refine s_or2 2 2 125 128 127 _ _ rfl rfl rfl rfl rfl rfl (fun h128 => by
                    try simp at h128
                    refine s_g rfl rfl rfl rfl rfl rfl (q_move rfl rfl) ?_
                    refine s_g rfl rfl rfl rfl rfl rfl (q_not rfl rfl) ?_
                    exact s_val rfl
                  ) (wanted_n rfl) rfl rfl rfl ?_
                refine s_done ?_
                refine n_then ?_
                refine t_cond rfl (fun hc8 => ?_) (fun hc8 => ?_)
                · skip
                  try simp at hc8
                · skip
                  try simp at hc8
                  refine t_skip ?_
                  refine n_then ?_
                  refine t_seq ?_
                  refine t_seq ?_
                  refine t_region ?_
                  refine l_q rfl rfl rfl (q_move rfl rfl) ?_
                  refine l_q rfl rfl rfl (q_eql rfl rfl rfl) ?_
                  refine l_nil ?_
                  refine n_then ?_
                  refine t_cond rfl (fun hc9 => ?_) (fun hc9 => ?_)
                  · skip
                    try simp at hc9
                    have hk0 : kk = 0 := by omega
                    have hq117 : NdAt J117 (simpQ l) c117 := by rw [hk0] at hn117; exact hn117
                    refine t_seq ?_
                    refine t_qdraw mo (by kernel_rfl) (fun _ _ _ _ _ h => h) ?_
                    refine s_q rfl rfl rfl ((by first | exact q_load_rowA rfl Tryz.underlying29 ti29 rfl rfl rfl | exact q_load_agg rfl Tryz.underlying29 ti29 rfl rfl (hkv.rds (nc_get (i := i) (by omega))))) ?_
                    refine s_q rfl rfl rfl (quiet_call rfl rfl rfl Tryz.func11 (by kernel_rfl) rfl ((fun w hw => code_pure _ (simpQ l) c117 w (Nat.le_refl _) (hq117.mono hw.le) (simpQ_K l) (simpQ_len (by omega) hs)))) ?_
                    refine s_q rfl rfl rfl ((by first | exact q_load_rowA rfl Tryz.underlying29 ti29 rfl rfl rfl | exact q_load_agg rfl Tryz.underlying29 ti29 rfl rfl (hkv.rds (nc_get (i := i) (by omega))))) ?_
                    refine s_q rfl rfl rfl (quiet_call rfl rfl rfl Tryz.func11 (by kernel_rfl) rfl ((fun w hw => code_pure _ (simpQ l) c55 w (Nat.le_refl _) ((hq55.mono hJ117).mono hw.le) (simpQ_K l) (simpQ_len (by omega) hs)))) ?_
                    refine s_q rfl rfl rfl (q_eql_str rfl rfl rfl) ?_
                    refine s_q rfl rfl rfl (q_assign rfl rfl) ?_
                    refine s_done ?_
                    refine n_then ?_
                    refine t_ret ?_
                    refine n_ret_then ?_
                    refine n_ret1 rfl rfl (fun w' hw => ?_)
                    -- leaf 2
                    refine ⟨?_, (hw.less ((hJq.trans hJ55).trans hJ117)).below⟩
                    simp
                  · skip
                    try simp at hc9
                    have hk1 : kk ≠ 0 := by omega
                    rw [pipe2 hk1] at hn117
                    obtain ⟨hk117, hn117b, cs, hkv, hns⟩ := atK hn117
                    have hcs := hns.len
                    rw [List.length_replicate] at hcs
                    have hki : ∀ i, i < kk + 1 → NdAt J117 (simpQ l) (nth cs i nc0) := fun i hi => by
                      have := hns.nth (i := i) (by rw [List.length_replicate]; exact hi)
                      rwa [nth_rep hi] at this
                    refine t_skip ?_
                    refine n_then ?_
                    refine t_seq ?_
                    refine t_seq ?_
                    refine t_qreg ?_
                    refine s_q rfl rfl rfl (q_fieldAddr rfl Tryz.underlying29 rfl rfl ti3 rfl rfl) ?_
                    refine s_q rfl rfl rfl ((by first | exact q_load_row rfl Tryz.underlying3 rfl rfl (by rfl) | exact q_load rfl Tryz.underlying3 rfl rfl (rd_st (i := k) hv (by omega)) | exact q_load rfl Tryz.underlying3 rfl rfl (rd_st (i := i) hwv (by rw [List.length_map]; omega)) | exact q_load rfl Tryz.underlying3 rfl rfl (rd_st (i := i) (hvq.mono hJ55) (by rw [List.length_map]; omega)))) ?_
                    refine s_q rfl rfl rfl (q_neq rfl rfl rfl) ?_
                    refine s_q rfl rfl rfl (q_move rfl rfl) ?_
                    refine s_or2 6 3 139 146 145 _ _ rfl rfl rfl rfl rfl rfl (fun h146 => by
                        try simp at h146
                        refine s_g rfl rfl rfl rfl rfl rfl (q_fieldAddr rfl Tryz.underlying29 rfl rfl ti27 rfl rfl) ?_
                        refine s_g rfl rfl rfl rfl rfl rfl ((by first | exact q_load_row rfl Tryz.underlying27 rfl rfl (by rfl) | exact q_load rfl Tryz.underlying27 rfl rfl (rd_st (i := k) hv (by omega)) | exact q_load rfl Tryz.underlying27 rfl rfl (rd_st (i := i) hwv (by rw [List.length_map]; omega)) | exact q_load rfl Tryz.underlying27 rfl rfl (rd_st (i := i) (hvq.mono hJ55) (by rw [List.length_map]; omega)))) ?_
                        refine s_g rfl rfl rfl rfl rfl rfl ((by first | exact q_lenV rfl Tryz.underlying27 rfl | exact q_len rfl Tryz.underlying27 rfl (Sl.lenOf hv (List.length_map _)) | exact q_len rfl Tryz.underlying27 rfl (Sl.lenOf (hvq.mono hJ55) (List.length_map _)) | exact q_len rfl Tryz.underlying27 rfl (Sl.lenOf hwv (List.length_map _)) | exact q_len rfl Tryz.underlying27 rfl (Sl.lenOf ((hvq.mono hJ55).mono hJ117) (List.length_map _)) | exact q_len rfl Tryz.underlying27 rfl (Sl.lenOf hkv (List.length_map _)))) ?_
                        refine s_g rfl rfl rfl rfl rfl rfl (q_move rfl rfl) ?_
                        refine s_g rfl rfl rfl rfl rfl rfl (q_add64 rfl rfl rfl (by omega)) ?_
                        refine s_g rfl rfl rfl rfl rfl rfl (q_neq rfl rfl rfl) ?_
                        exact s_val rfl
                      ) (wanted_n rfl) rfl rfl rfl ?_
                    refine s_q rfl rfl rfl (q_move rfl rfl) ?_
                    refine s_or2 2 11 147 150 149 _ _ rfl rfl rfl rfl rfl rfl (fun h150 => by
                        try simp at h150
                        refine s_g rfl rfl rfl rfl rfl rfl (q_fieldAddr rfl Tryz.underlying29 rfl rfl ti4 rfl rfl) ?_
                        refine s_g rfl rfl rfl rfl rfl rfl ((by first | exact q_load_row rfl Tryz.underlying4 rfl rfl (by rfl) | exact q_load rfl Tryz.underlying4 rfl rfl (rd_st (i := k) hv (by omega)) | exact q_load rfl Tryz.underlying4 rfl rfl (rd_st (i := i) hwv (by rw [List.length_map]; omega)) | exact q_load rfl Tryz.underlying4 rfl rfl (rd_st (i := i) (hvq.mono hJ55) (by rw [List.length_map]; omega)))) ?_
                        exact s_val rfl
                      ) (wanted_n rfl) rfl rfl rfl ?_
                    refine s_done ?_
                    refine n_then ?_
                    refine t_cond rfl (fun hc10 => ?_) (fun hc10 => ?_)
                    · skip
                      exfalso
                      simp [hk117, hcs, hn117b] at hc10
                    · skip
                      refine t_skip ?_
                      refine n_then ?_
                      refine t_seq ?_
                      refine t_seq ?_
                      refine t_region ?_
                      refine l_q rfl rfl rfl (q_fieldAddr rfl Tryz.underlying29 rfl rfl ti27 rfl rfl) ?_
                      refine l_q rfl rfl rfl ((by first | exact q_load_row rfl Tryz.underlying27 rfl rfl (by rfl) | exact q_load rfl Tryz.underlying27 rfl rfl (rd_st (i := k) hv (by omega)) | exact q_load rfl Tryz.underlying27 rfl rfl (rd_st (i := i) hwv (by rw [List.length_map]; omega)) | exact q_load rfl Tryz.underlying27 rfl rfl (rd_st (i := i) (hvq.mono hJ55) (by rw [List.length_map]; omega)))) ?_
                      refine l_q rfl rfl rfl ((by first | exact q_lenV rfl Tryz.underlying27 rfl | exact q_len rfl Tryz.underlying27 rfl (Sl.lenOf hv (List.length_map _)) | exact q_len rfl Tryz.underlying27 rfl (Sl.lenOf (hvq.mono hJ55) (List.length_map _)) | exact q_len rfl Tryz.underlying27 rfl (Sl.lenOf hwv (List.length_map _)) | exact q_len rfl Tryz.underlying27 rfl (Sl.lenOf ((hvq.mono hJ55).mono hJ117) (List.length_map _)) | exact q_len rfl Tryz.underlying27 rfl (Sl.lenOf hkv (List.length_map _)))) ?_
                      refine l_q rfl rfl rfl (q_move rfl rfl) ?_
                      refine l_nil ?_
                      refine n_then ?_
                      refine t_block ?_
                      refine t_loopE (ι := Nat) (fun zz => zz ≤ cs.length) (fun zz => cs.length - zz) (fun zz => [(154, .int .i64 (zz : Int))]) [(108, _), (17, _), (88, _), (34, _), (5, _), (6, _), (0, _), (1, _), (23, _), (31, _), (32, _), (33, _), (35, _), (52, _), (10, _), (11, _), (12, _), (14, _), (85, _), (87, _), (89, _), (16, _), (107, _), (109, _), (18, _), (128, _), (130, _), (150, _), (153, _)] (fun zz => J117) (fun zz => [row b18 29 (ncC c117), row b10 29 (ncC c55)]) 0 ?_ (sub_cons rfl sub_nil) (sub_cons rfl (sub_cons rfl (sub_cons rfl (sub_cons rfl (sub_cons rfl (sub_cons rfl (sub_cons rfl (sub_cons rfl (sub_cons rfl (sub_cons rfl (sub_cons rfl (sub_cons rfl (sub_cons rfl (sub_cons rfl (sub_cons rfl (sub_cons rfl (sub_cons rfl (sub_cons rfl (sub_cons rfl (sub_cons rfl (sub_cons rfl (sub_cons rfl (sub_cons rfl (sub_cons rfl (sub_cons rfl (sub_cons rfl (sub_cons rfl (sub_cons rfl (sub_cons rfl sub_nil))))))))))))))))))))))))))))) (fun _ h => subC_st h) ?_
                      · try dsimp only
                        exact Nat.zero_le _
                      rintro i hi
                      try dsimp only at *
                      refine t_seq ?_
                      refine t_region ?_
                      refine l_q rfl rfl rfl (q_lss rfl rfl rfl) ?_
                      refine l_nil ?_
                      refine n_then ?_
                      refine t_seq ?_
                      refine t_cond rfl (fun hc11 => ?_) (fun hc11 => ?_)
                      · skip
                        try simp at hc11
                        refine t_skip ?_
                        refine n_then ?_
                        refine t_seq ?_
                        refine t_block ?_
                        refine t_seq ?_
                        refine t_region ?_
                        refine l_q rfl rfl rfl (q_move rfl rfl) ?_
                        refine l_q rfl rfl rfl (q_assign rfl rfl) ?_
                        refine l_nil ?_
                        refine n_then ?_
                        refine t_seq ?_
                        refine t_qdraw mo (by kernel_rfl) (fun _ _ _ _ _ h => h) ?_
                        refine s_q rfl rfl rfl (q_fieldAddr rfl Tryz.underlying29 rfl rfl ti27 rfl rfl) ?_
                        refine s_q rfl rfl rfl ((by first | exact q_load_row rfl Tryz.underlying27 rfl rfl (by rfl) | exact q_load rfl Tryz.underlying27 rfl rfl (rd_st (i := k) hv (by omega)) | exact q_load rfl Tryz.underlying27 rfl rfl (rd_st (i := i) hwv (by rw [List.length_map]; omega)) | exact q_load rfl Tryz.underlying27 rfl rfl (rd_st (i := i) (hvq.mono hJ55) (by rw [List.length_map]; omega)))) ?_
                        refine s_q rfl rfl rfl (q_move rfl rfl) ?_
                        refine s_q rfl rfl rfl ((by first | exact q_indexAddrVN rfl Tryz.underlying27 ti29 rfl rfl (by omega) | exact q_indexAddrN rfl Tryz.underlying27 ti29 rfl rfl (Sl.shape hv (List.length_map _)) (by omega) | exact q_indexAddrN rfl Tryz.underlying27 ti29 rfl rfl (Sl.shape hwv (List.length_map _)) (by omega) | exact q_indexAddrN rfl Tryz.underlying27 ti29 rfl rfl (Sl.shape (hvq.mono hJ55) (List.length_map _)) (by omega) | exact q_indexAddrN rfl Tryz.underlying27 ti29 rfl rfl (Sl.shape hkv (List.length_map _)) (by omega) | exact q_indexAddrV rfl Tryz.underlying27 ti29 rfl rfl (by omega) | exact q_indexAddr rfl Tryz.underlying27 ti29 rfl rfl (Sl.shape hv (List.length_map _)) (by omega) | exact q_indexAddr rfl Tryz.underlying27 ti29 rfl rfl (Sl.shape hwv (List.length_map _)) (by omega) | exact q_indexAddr rfl Tryz.underlying27 ti29 rfl rfl (Sl.shape (hvq.mono hJ55) (List.length_map _)) (by omega) | exact q_indexAddr rfl Tryz.underlying27 ti29 rfl rfl (Sl.shape hkv (List.length_map _)) (by omega))) ?_
                        refine s_q rfl rfl rfl ((by first | exact q_load_rowA rfl Tryz.underlying29 ti29 rfl rfl rfl | exact q_load_agg rfl Tryz.underlying29 ti29 rfl rfl (hkv.rds (nc_get (i := i) (by omega))))) ?_
                        refine s_q rfl rfl rfl (quiet_call rfl rfl rfl Tryz.func11 (by kernel_rfl) rfl ((fun w hw => code_pure _ (simpQ l) (nth cs i nc0) w (Nat.le_refl _) ((hki i (by omega)).mono hw.le) (simpQ_K l) (simpQ_len (by omega) hs)))) ?_
                        refine s_q rfl rfl rfl ((by first | exact q_load_rowA rfl Tryz.underlying29 ti29 rfl rfl rfl | exact q_load_agg rfl Tryz.underlying29 ti29 rfl rfl (hkv.rds (nc_get (i := i) (by omega))))) ?_
                        refine s_q rfl rfl rfl (quiet_call rfl rfl rfl Tryz.func11 (by kernel_rfl) rfl ((fun w hw => code_pure _ (simpQ l) c55 w (Nat.le_refl _) ((hq55.mono hJ117).mono hw.le) (simpQ_K l) (simpQ_len (by omega) hs)))) ?_
                        refine s_q rfl rfl rfl (q_neq_str rfl rfl rfl) ?_
                        refine s_done ?_
                        refine n_then ?_
                        refine t_cond rfl (fun hc12 => ?_) (fun hc12 => ?_)
                        · skip
                          exfalso
                          simp at hc12
                        · skip
                          refine t_skip ?_
                          refine n_block ?_
                          refine n_then ?_
                          refine t_region ?_
                          refine l_q rfl rfl rfl (q_add64 rfl rfl rfl (by omega)) ?_
                          refine l_q rfl rfl rfl (q_move rfl rfl) ?_
                          refine l_nil ?_
                          refine n_roundE (i + 1) ?_ ?_ (sub_cons rfl sub_nil) (sub_cons rfl (sub_cons rfl (sub_cons rfl (sub_cons rfl (sub_cons rfl (sub_cons rfl (sub_cons rfl (sub_cons rfl (sub_cons rfl (sub_cons rfl (sub_cons rfl (sub_cons rfl (sub_cons rfl (sub_cons rfl (sub_cons rfl (sub_cons rfl (sub_cons rfl (sub_cons rfl (sub_cons rfl (sub_cons rfl (sub_cons rfl (sub_cons rfl (sub_cons rfl (sub_cons rfl (sub_cons rfl (sub_cons rfl (sub_cons rfl (sub_cons rfl (sub_cons rfl sub_nil))))))))))))))))))))))))))))) (fun _ h => by try dsimp only; exact subC_st h)
                          · try dsimp only
                            omega
                          · try dsimp only
                            omega
                      · skip
                        try simp at hc11
                        refine t_exit ?_
                        refine n_exit_then ?_
                        refine n_exit_then ?_
                        refine n_exit_block ?_
                        refine n_then ?_
                        refine t_seq ?_
                        refine t_region ?_
                        refine l_q rfl rfl rfl (q_assign rfl rfl) ?_
                        refine l_nil ?_
                        refine n_then ?_
                        refine t_ret ?_
                        refine n_ret1 rfl rfl (fun w' hw => ?_)
                        -- leaf 3
                        exact ⟨rfl, (hw.less ((hJq.trans hJ55).trans hJ117)).below⟩
end Go.Tri
