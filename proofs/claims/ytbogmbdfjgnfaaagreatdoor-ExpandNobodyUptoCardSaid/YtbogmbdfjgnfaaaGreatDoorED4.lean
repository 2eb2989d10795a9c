/-
  Does a pattern mean more than itself?
-/
import Derived.Test.YtbogmbdfjgnfaaaGreatDoorED1
import Derived.Test.YtbogmbdfjgnfaaaGreatDoorPPat2
namespace Go.Tri
open Go.Proofs Go.RowKit
theorem rds_ch0 {w0 : World} {I : Look} {H : List HA} {v : Value} {l : List Ch} (h : Sl I 2 v (l.map chC)) {i : Nat} (hi : i < l.length) : Rds w0 I H (adr v).block ((adr v).off + i * 2) (chC (nth l i ch0)) := rds_ch h hi
set_option maxRecDepth 10000 in
theorem wildC_pure (c : Ch) (w : World) : Pure Tryz.prog 55 [.agg (chC c).toArray] w (.bool (wildC c)) := by
  refine enter Tryz.func55 rfl Tryz.ntmps55 rfl (St.start w (look w) (Le.refl _)) ?_
  refine t_seq ?_
  refine t_region ?_
  refine l_e rfl rfl rfl (e_box rfl rfl rfl) ?_
  rintro _ _ _ ⟨b1, rfl, rfl, rfl⟩
  refine l_q rfl rfl rfl (q_assign rfl rfl) ?_
  refine l_nil ?_
  refine n_then ?_
  refine t_seq ?_
  refine t_qreg ?_
  refine s_q rfl rfl rfl (q_fieldAddr rfl Tryz.underlying88 rfl rfl ti4 rfl rfl) ?_
  refine s_q rfl rfl rfl (q_load_row rfl Tryz.underlying4 rfl rfl (by rfl)) ?_
  refine s_q rfl rfl rfl (q_not rfl rfl) ?_
  refine s_q rfl rfl rfl (q_move rfl rfl) ?_
  refine s_and2 4 3 6 11 10 _ _ rfl rfl rfl rfl rfl rfl (fun h11 => by
      try simp at h11
      refine s_g rfl rfl rfl rfl rfl rfl (q_fieldAddr rfl Tryz.underlying88 rfl rfl ti5 rfl rfl) ?_
      refine s_g rfl rfl rfl rfl rfl rfl (q_load_row rfl Tryz.underlying5 rfl rfl (by rfl)) ?_
      refine s_g rfl rfl rfl rfl rfl rfl (quiet_call rfl rfl rfl Tryz.func56 (by kernel_rfl) rfl ((fun w _ => indexByte_pure [42, 63, 91] _ w))) ?_
      refine s_g rfl rfl rfl rfl rfl rfl (q_geq rfl rfl rfl) ?_
      exact s_val rfl
    ) (wanted_n rfl) rfl rfl rfl ?_
  refine s_q rfl rfl rfl (q_assign rfl rfl) ?_
  refine s_done ?_
  refine n_then ?_
  refine t_ret ?_
  refine n_ret1 rfl rfl (fun w' hw => ?_)
  -- leaf 0
  refine ⟨?_, hw.below⟩
  rw [indexByte_has]; rfl
set_option maxRecDepth 10000 in
theorem wIdx_pure (v : Value) (p : List Ch) (w : World) (hp : p.length ≤ 4611686018427387904) (hv : Sl (look w) 2 v (p.map chC)) : Pure Tryz.prog 83 [v, .func (.func 55) #[] #[]] w (.int .i64 (wIdx p 0)) := by
  refine enter Tryz.func83 rfl Tryz.ntmps83 rfl (St.start w (look w) (Le.refl _)) ?_
  refine t_seq ?_
  refine t_region ?_
  refine l_q rfl rfl rfl (q_assign rfl rfl) ?_
  refine l_nil ?_
  refine n_then ?_
  refine t_seq ?_
  refine t_seq ?_
  refine t_region ?_
  refine l_q rfl rfl rfl (q_move rfl rfl) ?_
  refine l_q rfl rfl rfl ((by first | exact q_lenV rfl Tryz.underlying47 rfl | exact q_len rfl Tryz.underlying47 rfl (Sl.lenOf hv (List.length_map _)))) ?_
  refine l_q rfl rfl rfl (q_move rfl rfl) ?_
  refine l_nil ?_
  refine n_then ?_
  refine t_block ?_
  refine t_loopE (ι := Nat) (fun zz => zz ≤ p.length ∧ wIdx p 0 = wIdx (p.drop zz) zz) (fun zz => p.length - zz) (fun zz => [(8, .int .i64 (zz : Int))]) [(0, _), (1, _), (7, _)] (fun zz => look w) (fun zz => []) 0 ?_ (sub_cons rfl sub_nil) (sub_cons rfl (sub_cons rfl (sub_cons rfl sub_nil))) (fun _ h => subC_st h) ?_
  · try dsimp only
    exact ⟨Nat.zero_le _, by simp⟩
  rintro i ⟨hi, hx⟩
  try dsimp only at *
  refine t_seq ?_
  refine t_region ?_
  refine l_q rfl rfl rfl (q_lss rfl rfl rfl) ?_
  refine l_nil ?_
  refine n_then ?_
  refine t_seq ?_
  refine t_cond rfl (fun hc0 => ?_) (fun hc0 => ?_)
  · skip
    try simp at hc0
    refine t_skip ?_
    refine n_then ?_
    refine t_seq ?_
    refine t_block ?_
    refine t_seq ?_
    refine t_region ?_
    refine l_q rfl rfl rfl (q_move rfl rfl) ?_
    refine l_q rfl rfl rfl (q_assign rfl rfl) ?_
    refine l_nil ?_
    refine n_then ?_
    refine t_seq ?_
    refine t_region ?_
    refine l_q rfl rfl rfl (q_move rfl rfl) ?_
    refine l_q rfl rfl rfl (q_move rfl rfl) ?_
    refine l_q rfl rfl rfl (q_move rfl rfl) ?_
    refine l_q rfl rfl rfl ((by first | exact q_indexAddrVN rfl Tryz.underlying47 ti88 rfl rfl (by omega) | exact q_indexAddrN rfl Tryz.underlying47 ti88 rfl rfl (Sl.shape hv (List.length_map _)) (by omega) | exact q_indexAddrV rfl Tryz.underlying47 ti88 rfl rfl (by omega) | exact q_indexAddr rfl Tryz.underlying47 ti88 rfl rfl (Sl.shape hv (List.length_map _)) (by omega))) ?_
    refine l_q rfl rfl rfl ((by first | exact q_load_rowA rfl Tryz.underlying88 ti88 rfl rfl rfl | exact q_load_agg rfl Tryz.underlying88 ti88 rfl rfl (rds_ch0 (i := i) hv (by omega)))) ?_
    refine l_q rfl rfl rfl (quiet_call rfl rfl rfl Tryz.func55 (by kernel_rfl) rfl ((fun w _ => wildC_pure (nth p i ch0) w))) ?_
    refine l_nil ?_
    refine n_then ?_
    refine t_cond rfl (fun hc1 => ?_) (fun hc1 => ?_)
    · skip
      refine t_seq ?_
      refine t_region ?_
      refine l_q rfl rfl rfl (q_move rfl rfl) ?_
      refine l_q rfl rfl rfl (q_assign rfl rfl) ?_
      refine l_nil ?_
      refine n_then ?_
      refine t_ret ?_
      refine n_ret_block ?_
      refine n_ret_then ?_
      refine n_ret_then ?_
      refine n_ret_block ?_
      refine n_ret_then ?_
      refine n_ret1 rfl rfl (fun w' hw => ?_)
      -- leaf 0
      refine ⟨?_, hw.below⟩
      rw [hx, drop_nth ch0 (by omega), wIdx, hc1]; rfl
    · skip
      refine t_skip ?_
      refine n_block ?_
      refine n_then ?_
      refine t_region ?_
      refine l_q rfl rfl rfl (q_add64 rfl rfl rfl (by omega)) ?_
      refine l_q rfl rfl rfl (q_move rfl rfl) ?_
      refine l_nil ?_
      refine n_roundE (i + 1) ?_ ?_ (sub_cons rfl sub_nil) (sub_cons rfl (sub_cons rfl (sub_cons rfl sub_nil))) (fun _ h => by try dsimp only; exact subC_st h)
      · try dsimp only
        refine ⟨by omega, hx.trans ?_⟩; rw [drop_nth ch0 (by omega), wIdx, hc1]; simp
      · try dsimp only
        omega
  · skip
    try simp at hc0
    refine t_exit ?_
    refine n_exit_then ?_
    refine n_exit_then ?_
    refine n_exit_block ?_
    refine n_then ?_
    refine t_seq ?_
    refine t_region ?_
    refine l_q rfl rfl rfl (q_assign rfl rfl) ?_
    refine l_nil ?_
    refine n_then ?_
    refine t_ret ?_
    refine n_ret1 rfl rfl (fun w' hw => ?_)
    -- leaf 1
    refine ⟨?_, hw.below⟩
    rw [hx, List.drop_of_length_le (by omega)]; rfl
set_option maxRecDepth 10000 in
theorem wCon_pure (v : Value) (p : List Ch) (w : World) (hp : p.length ≤ 4611686018427387904) (hv : Sl (look w) 2 v (p.map chC)) : Pure Tryz.prog 54 [v, .func (.func 55) #[] #[]] w (.bool (wildP p)) := by
  refine enter Tryz.func54 rfl Tryz.ntmps54 rfl (St.start w (look w) (Le.refl _)) ?_
  refine t_seq ?_
  refine t_region ?_
  refine l_q rfl rfl rfl (q_assign rfl rfl) ?_
  refine l_nil ?_
  refine n_then ?_
  refine t_seq ?_
  refine t_region ?_
  refine l_q rfl rfl rfl (q_move rfl rfl) ?_
  refine l_q rfl rfl rfl (q_move rfl rfl) ?_
  refine l_q rfl rfl rfl (quiet_call rfl rfl rfl Tryz.func83 (by kernel_rfl) rfl ((fun w hw => wIdx_pure v p w hp (hv.mono (Le.of_st hw))))) ?_
  refine l_q rfl rfl rfl (q_geq rfl rfl rfl) ?_
  refine l_q rfl rfl rfl (q_assign rfl rfl) ?_
  refine l_nil ?_
  refine n_then ?_
  refine t_ret ?_
  refine n_ret1 rfl rfl (fun w' hw => ?_)
  -- leaf 0
  refine ⟨?_, hw.below⟩
  rw [← wIdx_nn p 0]
set_option maxRecDepth 10000 in
theorem wild_pure (v : Value) (p : List Ch) (w : World) (hp : p.length ≤ 4611686018427387904) (hv : Sl (look w) 2 v (p.map chC)) : Pure Tryz.prog 33 [v] w (.bool (wildP p)) := by
  refine enter Tryz.func33 rfl Tryz.ntmps33 rfl (St.start w (look w) (Le.refl _)) ?_
  refine t_seq ?_
  refine t_region ?_
  refine l_q rfl rfl rfl (q_assign rfl rfl) ?_
  refine l_nil ?_
  refine n_then ?_
  refine t_seq ?_
  refine t_region ?_
  refine l_q rfl rfl rfl (q_move rfl rfl) ?_
  refine l_q rfl rfl rfl (quiet_call rfl rfl rfl Tryz.func54 (by kernel_rfl) rfl ((fun w hw => wCon_pure v p w hp (hv.mono (Le.of_st hw))))) ?_
  refine l_q rfl rfl rfl (q_assign rfl rfl) ?_
  refine l_nil ?_
  refine n_then ?_
  refine t_ret ?_
  refine n_ret1 rfl rfl (fun w' hw => ?_)
  -- leaf 0
  exact ⟨rfl, hw.below⟩
end Go.Tri
