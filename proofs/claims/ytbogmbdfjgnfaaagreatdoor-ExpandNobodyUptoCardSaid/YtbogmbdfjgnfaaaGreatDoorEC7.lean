/-
  Parts, one behind the other.
-/
import Derived.Test.YtbogmbdfjgnfaaaGreatDoorEC6
namespace Go.Tri
open Go.Proofs Go.RowKit
theorem partC_ones1 {x : PE} (h : One x.wv) : ∀ u ∈ partC x, u.oneCell' = true := fun u hu => by
  simp only [partC, List.mem_cons, List.not_mem_nil, or_false] at hu
  rcases hu with rfl | rfl | rfl | rfl | rfl
  · rfl
  · rfl
  · rfl
  · exact h.2
  · rfl
theorem partsX_step {b : Bool} {h : Hx} {acc : List Px} {L : List PE} {i : Nat} (hi : i < L.length) : partsX b h acc ((L.drop i).map PE.pt) = match partX b h (nth L i pe0).pt with
    | .bad e h' => .bad e h'
    | .ok m h' => partsX b h' (acc ++ m) ((L.drop (i + 1)).map PE.pt) := by
  rw [drop_nth pe0 hi, List.map_cons, partsX]
  cases partX b h (nth L i pe0).pt <;> rfl
set_option maxRecDepth 10000 in
theorem parts_step (L : List PE) (v : Value) (b : Bool) (I0 : Look) (hsl : Sl I0 5 v (L.map partC)) (hW : ∀ x ∈ L, One x.wv) (hL : L.length ≤ 1000000) (mb : Nat) (p : HP) (h : Hx) (HOk : Hx → Prop) (hh : HOk h) (hrec : ∀ i, i < L.length → ∀ h', HOk h' → PartOk (nth L i pe0, b) I0 mb p h' (partX b h' (nth L i pe0).pt) ∧ ∀ m h'', partX b h' (nth L i pe0).pt = .ok m h'' → HOk h'' ∧ m.length ≤ 1000) : PartsOk (v, b) I0 mb p h (partsX b h [] (L.map PE.pt)) := by
  intro I lv0 av0 F w0 w hI0 hi0 hw0
  refine enter Tryz.func41 rfl Tryz.ntmps41 rfl (hw0.self) ?_
  refine t_seq ?_
  refine t_region ?_
  refine l_q rfl rfl rfl (q_assign rfl rfl) ?_
  refine l_nil ?_
  refine n_then ?_
  refine t_seq ?_
  refine t_region ?_
  refine l_q rfl rfl rfl (q_assign rfl rfl) ?_
  refine l_nil ?_
  refine n_then ?_
  refine t_seq ?_
  refine t_seq ?_
  refine t_region ?_
  refine l_q rfl rfl rfl (q_move rfl rfl) ?_
  refine l_q rfl rfl rfl ((by first | exact q_lenV rfl Tryz.underlying96 rfl | exact q_len rfl Tryz.underlying96 rfl (Sl.lenOf hsl (List.length_map _)))) ?_
  refine l_q rfl rfl rfl (q_move rfl rfl) ?_
  refine l_nil ?_
  refine n_then ?_
  refine t_block ?_
  refine t_loopE (ι := Nat × Hx × List Px × Value × Value × Value × Look) (fun zz => zz.1 ≤ L.length ∧ Le I zz.2.2.2.2.2.2 ∧ HostI zz.2.2.2.2.2.2 p zz.2.2.2.2.1 zz.2.1 ∧ HOk zz.2.1 ∧ zz.2.2.1.length ≤ 1000 * zz.1 ∧ partsX b h [] (L.map PE.pt) = partsX b zz.2.1 zz.2.2.1 ((L.drop zz.1).map PE.pt)) (fun zz => L.length - zz.1) (fun zz => [(12, .int .i64 (zz.1 : Int)), (7, zz.2.2.2.1)]) [(0, _), (1, _), (2, _), (10, _), (11, _)] (fun zz => zz.2.2.2.2.2.2) (fun zz => (makH mb 0 p zz.2.2.2.2.1 zz.2.2.2.2.2.1 zz.2.1 (tvec 110 4 pxC zz.2.2.2.1 zz.2.2.1 :: F))) (0, h, [], .slice none 0 0, lv0, av0, I) ?_ (sub_cons rfl (sub_cons rfl sub_nil)) (sub_cons rfl (sub_cons rfl (sub_cons rfl (sub_cons rfl (sub_cons rfl sub_nil))))) (fun _ h => by dsimp only; exact subC_st (st_nilT 110 4 pxC h)) ?_
  · try dsimp only
    exact ⟨Nat.zero_le _, Le.refl _, hi0, hh, Nat.le_refl _, rfl⟩
  rintro ⟨i, h1, acc, vo, lv, av, J⟩ ⟨hi1, hJ, hi, hh1, hal, hx⟩
  try dsimp only at *
  refine t_seq ?_
  refine t_region ?_
  refine l_q rfl rfl rfl (q_lss rfl rfl rfl) ?_
  refine l_nil ?_
  refine n_then ?_
  refine t_seq ?_
  refine t_cond rfl (fun hc0 => ?_) (fun hc0 => ?_)
  · skip
    try simp at hc0
    have hiL : i < L.length := by omega
    refine t_skip ?_
    refine n_then ?_
    refine t_seq ?_
    refine t_block ?_
    refine t_seq ?_
    refine t_region ?_
    refine l_q rfl rfl rfl ((by first | exact q_indexAddrVN rfl Tryz.underlying96 ti148 rfl rfl (by omega) | exact q_indexAddrN rfl Tryz.underlying96 ti148 rfl rfl (Sl.shape hsl (List.length_map _)) (by omega) | exact q_indexAddrV rfl Tryz.underlying96 ti148 rfl rfl (by omega) | exact q_indexAddr rfl Tryz.underlying96 ti148 rfl rfl (Sl.shape hsl (List.length_map _)) (by omega))) ?_
    refine l_q rfl rfl rfl ((by first | exact q_load_rowA rfl Tryz.underlying148 ti148 rfl rfl rfl | exact q_load_agg rfl Tryz.underlying148 ti148 rfl rfl (rds_pt (i := i) (hsl.mono (hI0.trans hJ)) (by omega)))) ?_
    refine l_e rfl rfl rfl (e_alloc rfl ti148 rfl) ?_
    rintro _ _ _ ⟨b9, rfl, rfl, rfl⟩
    refine l_e0 rfl rfl ((by first | exact e_store_all rfl ti148 rfl rfl rfl (by first | exact chC_ones _ | exact pcC_ones _ | exact partC_ones1 (hW _ (nth_mem (by omega))) | simp [Value.oneCell', str, u8]) rfl | exact e_store_agg rfl ti148 rfl rfl rfl (by first | exact chC_ones _ | exact pcC_ones _ | exact partC_ones1 (hW _ (nth_mem (by omega))) | simp [Value.oneCell', str, u8]) rfl)) ?_
    rintro _ _ _ ⟨rfl, rfl⟩
    refine l_nil ?_
    refine n_then ?_
    refine t_seq ?_
    refine t_region ?_
    refine l_q rfl rfl rfl (q_move rfl rfl) ?_
    refine l_q rfl rfl rfl (q_move rfl rfl) ?_
    refine l_q rfl rfl rfl ((by first | exact q_load_rowA rfl Tryz.underlying148 ti148 rfl rfl rfl | exact q_load_agg rfl Tryz.underlying148 ti148 rfl rfl (rds_pt (i := i) (hsl.mono (hI0.trans hJ)) (by omega)))) ?_
    refine l_q rfl rfl rfl (q_move rfl rfl) ?_
    refine l_e rfl rfl rfl (eff_call rfl rfl rfl Tryz.func68 (by kernel_rfl) rfl (fun w hw => (hrec i hiL h1 hh1).1 J lv av (row b9 148 (partC (nth L i pe0)) :: tvec 110 4 pxC vo acc :: F) _ w (hI0.trans hJ) hi (pick_mak hw))) ?_
    rintro v20 J20 _ ⟨hJ20, e, M, h2, lv2, av2, rfl, hi2, hpx, hr⟩
    have hMl : M.length ≤ 1000 := by
      rcases Nat.eq_zero_or_pos e with he | he
      · exact ((hrec i hiL h1 hh1).2 _ _ (hr.ok he)).2
      · have := hr.bad (by omega : e ≠ 0)
        rw [this] at hr
        rw [hr.2.2.1]; exact Nat.zero_le _
    refine l_e rfl rfl rfl (e_appendSl (f := pxC) (l := acc) (ls := M) rfl Tryz.underlying60 ti110 rfl rfl rfl rfl (hpx) rfl (fun _ => rfl) pxC_ones (by simp only [maxLen]; omega) (by omega)) ?_
    rintro v21 _ _ ⟨rfl, rfl⟩
    refine l_q rfl rfl rfl (q_assign rfl rfl) ?_
    refine l_nil ?_
    refine n_then ?_
    refine t_seq ?_
    refine t_region ?_
    refine l_q rfl rfl rfl (q_move rfl rfl) ?_
    refine l_q rfl rfl rfl (q_nilCheck rfl rfl) ?_
    refine l_q rfl rfl rfl (q_fieldAddr rfl Tryz.underlying101 rfl rfl ti30 rfl rfl) ?_
    refine l_q rfl rfl rfl (q_load_row rfl Tryz.underlying30 rfl rfl (by rfl)) ?_
    refine l_q rfl rfl rfl (q_neq rfl rfl rfl) ?_
    refine l_nil ?_
    refine n_then ?_
    refine t_cond rfl (fun hc1 => ?_) (fun hc1 => ?_)
    · skip
      try simp at hc1
      have he : e ≠ 0 := by omega
      refine t_seq ?_
      refine t_region ?_
      refine l_q rfl rfl rfl (q_assign rfl rfl) ?_
      refine l_nil ?_
      refine n_then ?_
      refine t_ret ?_
      refine n_ret_block ?_
      refine n_ret_then ?_
      refine n_ret_then ?_
      refine n_ret_block ?_
      refine n_ret_then ?_
      refine n_ret1 rfl rfl (fun w' hw => ?_)
      -- leaf 0
      exact ⟨_, rfl, J20, makH mb e p lv2 av2 h2 F, ⟨hJ.trans hJ20, e, [], h2, lv2, av2, rfl, hi2, sl_nil (fun _ h => by cases h), by rw [hx, partsX_step hiL, hr.bad he]; exact ⟨rfl, he, rfl, rfl⟩⟩, subC_st hw⟩
    · skip
      try simp at hc1
      have he : e = 0 := by omega
      refine t_skip ?_
      refine n_block ?_
      refine n_then ?_
      refine t_region ?_
      refine l_q rfl rfl rfl (q_add64 rfl rfl rfl (by omega)) ?_
      refine l_q rfl rfl rfl (q_move rfl rfl) ?_
      refine l_nil ?_
      refine n_roundE ((i + 1, h2, acc ++ M, v21, lv2, av2, J20)) ?_ ?_ (sub_cons rfl (sub_cons rfl sub_nil)) (sub_cons rfl (sub_cons rfl (sub_cons rfl (sub_cons rfl (sub_cons rfl sub_nil))))) (fun _ h => by dsimp only; rw [he] at h; exact subC_st h)
      · try dsimp only
        have hk := (hrec i hiL h1 hh1).2 _ _ (hr.ok he)
        refine ⟨by omega, hJ.trans hJ20, hi2, hk.1, by rw [List.length_append]; omega, ?_⟩
        rw [hx, partsX_step hiL, hr.ok he]
      · try dsimp only
        show L.length - (i + 1) < L.length - i
        omega
  · skip
    try simp at hc0
    have hiL : i = L.length := by omega
    rw [hiL, List.drop_length, List.map_nil, partsX] at hx
    refine t_exit ?_
    refine n_exit_then ?_
    refine n_exit_then ?_
    refine n_exit_block ?_
    refine n_then ?_
    refine t_seq ?_
    refine t_freezeT (f := pxC) (l := acc) vo (fun _ => rfl) (fun Jf hJf hvo => ?_)
    refine t_region ?_
    refine l_q rfl rfl rfl (q_move rfl rfl) ?_
    refine l_q rfl rfl rfl (q_assign rfl rfl) ?_
    refine l_nil ?_
    refine n_then ?_
    refine t_ret ?_
    refine n_ret1 rfl rfl (fun w' hw => ?_)
    -- leaf 1
    exact ⟨_, rfl, Jf, makH mb 0 p lv av h1 F, ⟨hJ.trans hJf, 0, acc, h1, lv, av, rfl, hi.mono hJf, hvo, by rw [hx]; exact ⟨rfl, rfl, rfl⟩⟩, subC_st hw⟩
end Go.Tri
