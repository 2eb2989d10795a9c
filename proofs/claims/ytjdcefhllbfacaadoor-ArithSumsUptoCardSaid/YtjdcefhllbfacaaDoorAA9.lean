/-
  Variables sought.
-/
import Derived.Test.YtjdcefhllbfacaaDoorAA8
namespace Go.Tri
open Go.Proofs Go.RowKit
set_option maxRecDepth 10000 in
theorem backward_iter (S : List Ass) (v : Value) (b1 : Nat) (I0 : Look) (hs : S.length ≤ 1000000000) (hv : Sl I0 2 v (S.map asC)) : Iterates Tryd.prog 50 [.pointer (some ⟨b1, 0, none⟩)] (bwS S) (fun I => CellI I b1 0 v ∧ Le I0 I) := by
  intro γ Cd Cx G II lid hY w0 g00 F w hcd0 hpre hw0
  obtain ⟨hb1, hle0⟩ := hpre
  have hJ := Le.refl (II g00)
  refine enter Tryd.func50 rfl Tryd.ntmps50 rfl (hw0.self) ?_
  refine t_seq ?_
  refine t_region ?_
  refine l_q rfl rfl rfl ((by first | exact q_load_row rfl Tryd.underlying24 rfl rfl (by rfl) | exact q_load rfl Tryd.underlying24 rfl rfl (rd_imm (hb1.mono hJ)))) ?_
  refine l_q rfl rfl rfl ((by first | exact q_lenV rfl Tryd.underlying24 rfl | exact q_len rfl Tryd.underlying24 rfl (Sl.lenOf hv (List.length_map _)))) ?_
  refine l_q rfl rfl rfl (q_sub64 rfl rfl rfl (by omega)) ?_
  refine l_q rfl rfl rfl (q_assign rfl rfl) ?_
  refine l_nil ?_
  refine n_then ?_
  refine t_block ?_
  refine t_loopE (ι := Nat × γ) (fun zz => zz.1 ≤ S.length ∧ Cd zz.1 zz.2 ∧ Le (II g00) (II zz.2)) (fun zz => S.length - zz.1) (fun zz => [(3, .int .i64 ((S.length : Int) - 1 - (zz.1 : Int)))]) [(0, _), (1, _)] (fun zz => (II zz.2)) (fun zz => (F ++ G zz.2)) (0, g00) ?_ (sub_cons' rfl (congrArg (Value.int IntKind.i64) (by simp)) (sub_nil)) (sub_cons rfl (sub_cons rfl sub_nil)) (fun _ h => subC_st h) ?_
  · try dsimp only
    exact ⟨Nat.zero_le _, hcd0, Le.refl _⟩
  rintro ⟨nn, g⟩ ⟨hn, hcd, hJ⟩
  try dsimp only at *
  refine t_seq ?_
  refine t_seq ?_
  refine t_region ?_
  refine l_q rfl rfl rfl (q_move rfl rfl) ?_
  refine l_q rfl rfl rfl (q_geq rfl rfl rfl) ?_
  refine l_nil ?_
  refine n_then ?_
  refine t_cond rfl (fun hc0 => ?_) (fun hc0 => ?_)
  · skip
    try simp at hc0
    have hn1 : nn < S.length := by omega
    have hcs : ((S.length : Int) - 1 - (nn : Int)) = ((S.length - 1 - nn : Nat) : Int) := by omega
    rw [hcs]
    refine t_skip ?_
    refine n_then ?_
    refine t_seq ?_
    refine t_block ?_
    refine t_seq ?_
    refine t_region ?_
    refine l_q rfl rfl rfl (q_move rfl rfl) ?_
    refine l_q rfl rfl rfl (q_move rfl rfl) ?_
    refine l_q rfl rfl rfl ((by first | exact q_load_row rfl Tryd.underlying24 rfl rfl (by rfl) | exact q_load rfl Tryd.underlying24 rfl rfl (rd_imm (hb1.mono hJ)))) ?_
    refine l_q rfl rfl rfl (q_move rfl rfl) ?_
    refine l_q rfl rfl rfl ((by first | exact q_indexAddrVN rfl Tryd.underlying24 ti37 rfl rfl (by omega) | exact q_indexAddrN rfl Tryd.underlying24 ti37 rfl rfl (Sl.shape hv (List.length_map _)) (by omega) | exact q_indexAddrV rfl Tryd.underlying24 ti37 rfl rfl (by omega) | exact q_indexAddr rfl Tryd.underlying24 ti37 rfl rfl (Sl.shape hv (List.length_map _)) (by omega))) ?_
    refine l_q rfl rfl rfl ((by first | exact q_load_rowA rfl Tryd.underlying37 ti37 rfl rfl rfl | exact q_load_agg rfl Tryd.underlying37 ti37 rfl rfl (rds_as (i := S.length - 1 - nn) (hv.mono (hle0.trans hJ)) (by omega)))) ?_
    refine l_yield (i := nn) g (wanted_n rfl) rfl rfl rfl rfl rfl hY (bwS_at hn1) hcd rfl (fun g hcd hle => ?_) (fun g hcx hle => ?_)
    · skip
      have hJ := hJ.trans hle
      refine l_q rfl rfl rfl (q_not rfl rfl) ?_
      refine l_nil ?_
      refine n_then ?_
      refine t_cond rfl (fun hc1 => ?_) (fun hc1 => ?_)
      · skip
        exact absurd hc1 (by simp)
      · skip
        refine t_skip ?_
        refine n_block ?_
        refine n_then ?_
        refine t_region ?_
        refine l_q rfl rfl rfl (q_move rfl rfl) ?_
        refine l_q rfl rfl rfl (q_sub64 rfl rfl rfl (by omega)) ?_
        refine l_q rfl rfl rfl (q_assign rfl rfl) ?_
        refine l_nil ?_
        refine n_roundE ((nn + 1, g)) ?_ ?_ (sub_cons' rfl (congrArg (Value.int IntKind.i64) (by omega)) (sub_nil)) (sub_cons rfl (sub_cons rfl sub_nil)) (fun _ h => by try dsimp only; exact subC_st h)
        · try dsimp only
          exact ⟨by omega, hcd, hJ⟩
        · try dsimp only
          show S.length - (nn + 1) < S.length - nn
          omega
    · skip
      have hJ := hJ.trans hle
      refine l_q rfl rfl rfl (q_not rfl rfl) ?_
      refine l_nil ?_
      refine n_then ?_
      refine t_cond rfl (fun hc2 => ?_) (fun hc2 => ?_)
      · skip
        refine t_ret ?_
        refine n_ret_block ?_
        refine n_ret_then ?_
        refine n_ret_then ?_
        refine n_ret_block ?_
        refine n_ret0 rfl (fun w' hw => ?_)
        -- leaf 0
        exact ⟨_, rfl, g, .inr ⟨nn + 1, (by rw [bwS_len]; omega), hcx⟩, hJ, hw0.rebase (subC_st hw)⟩
      · skip
        exact absurd hc2 (by simp)
  · skip
    try simp at hc0
    have hn1 : nn = S.length := by omega
    refine t_exit ?_
    refine n_exit_then ?_
    refine n_exit_then ?_
    refine n_exit_block ?_
    refine n_end0 rfl (fun w' hw => ?_)
    -- leaf 1
    exact ⟨_, rfl, g, .inl (by rw [bwS_len, ← hn1]; exact hcd), hJ, hw0.rebase (subC_st hw)⟩
set_option maxRecDepth 10000 in
theorem backward_calls (v : Value) (hone : One v) (I : Look) (F : List HA) (w0 w : World) (hw0 : St w0 I F w) : Calls Tryd.prog 37 [v].toArray w (fun e w' => ∃ v1, e = .returned v1 ∧ ∃ I' H', (Le I I' ∧ F = H' ∧ ∃ b, v1 = .func (.func 50) #[] #[.pointer (some ⟨b, 0, none⟩)] ∧ CellI I' b 0 v) ∧ St w I' H' w') := by
  refine enter Tryd.func37 rfl Tryd.ntmps37 rfl (hw0.self) ?_
  refine t_seq ?_
  refine t_region ?_
  refine l_e rfl rfl rfl (e_box rfl rfl (by first | exact One.cells (by assumption) | exact One.cells hone | rfl)) ?_
  rintro _ _ _ ⟨b1, rfl, rfl, rfl⟩
  refine l_q rfl rfl rfl (q_assign rfl rfl) ?_
  refine l_nil ?_
  refine n_then ?_
  refine t_seq ?_
  refine t_freezeRow b1 (fun J hJ h1 => ?_)
  refine t_region ?_
  refine l_q rfl rfl rfl (q_makeFunc rfl rfl rfl) ?_
  refine l_q rfl rfl rfl (q_assign rfl rfl) ?_
  refine l_nil ?_
  refine n_then ?_
  refine t_ret ?_
  refine n_ret1 rfl rfl (fun w' hw => ?_)
  -- leaf 0
  exact ⟨_, rfl, J, _, ⟨hJ, rfl, b1, rfl, h1 0 _ rfl⟩, hw⟩
set_option maxRecDepth 10000 in
theorem worth1_pure (x : Vr) (b : Nat) (n : List UInt8) (w : World) (hb : CellI (look w) b 0 (str n)) : Pure Tryd.prog 39 [.agg (vrC x).toArray, .pointer (some ⟨b, 0, none⟩)] w (.bool (decide (x.name = n))) := by
  refine enter Tryd.func39 rfl Tryd.ntmps39 rfl (St.start w (look w) (Le.refl _)) ?_
  refine t_seq ?_
  refine t_region ?_
  refine l_e rfl rfl rfl (e_box rfl rfl rfl) ?_
  rintro _ _ _ ⟨b2, rfl, rfl, rfl⟩
  refine l_heap (H' := row b2 32 (vrC x) :: _) ?_ (fun _ h => h)
  refine l_q rfl rfl rfl (q_assign rfl rfl) ?_
  refine l_nil ?_
  refine n_then ?_
  refine t_seq ?_
  refine t_region ?_
  refine l_q rfl rfl rfl (q_fieldAddr rfl Tryd.underlying32 rfl rfl ti9 rfl rfl) ?_
  refine l_q rfl rfl rfl ((by first | exact q_load_row rfl Tryd.underlying9 rfl rfl (by rfl) | exact q_load rfl Tryd.underlying9 rfl rfl (rd_imm hb))) ?_
  refine l_q rfl rfl rfl ((by first | exact q_load_row rfl Tryd.underlying9 rfl rfl (by rfl) | exact q_load rfl Tryd.underlying9 rfl rfl (rd_imm hb))) ?_
  refine l_q rfl rfl rfl (q_eql_str rfl rfl rfl) ?_
  refine l_q rfl rfl rfl (q_assign rfl rfl) ?_
  refine l_nil ?_
  refine n_then ?_
  refine t_ret ?_
  refine n_ret1 rfl rfl (fun w' hw => ?_)
  -- leaf 0
  exact ⟨rfl, hw.below⟩
set_option maxRecDepth 10000 in
theorem vIdx_pure (v : Value) (l : List Vr) (b : Nat) (n : List UInt8) (w : World) (hl : l.length ≤ 1000000000) (hv : Sl (look w) 5 v (l.map vrC)) (hb : CellI (look w) b 0 (str n)) : Pure Tryd.prog 38 [v, .func (.func 39) #[] #[.pointer (some ⟨b, 0, none⟩)]] w (.int .i64 (vIdx n l 0)) := by
  refine enter Tryd.func38 rfl Tryd.ntmps38 rfl (St.start w (look w) (Le.refl _)) ?_
  refine t_seq ?_
  refine t_region ?_
  refine l_q rfl rfl rfl (q_assign rfl rfl) ?_
  refine l_nil ?_
  refine n_then ?_
  refine t_seq ?_
  refine t_seq ?_
  refine t_region ?_
  refine l_q rfl rfl rfl (q_move rfl rfl) ?_
  refine l_q rfl rfl rfl ((by first | exact q_lenV rfl Tryd.underlying22 rfl | exact q_len rfl Tryd.underlying22 rfl (Sl.lenOf hv (List.length_map _)))) ?_
  refine l_q rfl rfl rfl (q_move rfl rfl) ?_
  refine l_nil ?_
  refine n_then ?_
  refine t_block ?_
  refine t_loopE (ι := Nat) (fun zz => zz ≤ l.length ∧ vIdx n l 0 = vIdx n (l.drop zz) zz) (fun zz => l.length - zz) (fun zz => [(8, .int .i64 (zz : Int))]) [(0, _), (1, _), (7, _)] (fun zz => look w) (fun zz => []) 0 ?_ (sub_cons rfl sub_nil) (sub_cons rfl (sub_cons rfl (sub_cons rfl sub_nil))) (fun _ h => subC_st h) ?_
  · try dsimp only
    exact ⟨Nat.zero_le _, by simp⟩
  rintro i ⟨hi, hx⟩
  try dsimp only at *
  refine t_seq ?_
  refine t_region ?_
  refine l_q rfl rfl rfl (q_lss rfl rfl rfl) ?_
  refine l_nil ?_
  refine n_then ?_
  refine t_seq ?_
  refine t_cond rfl (fun hc0 => ?_) (fun hc0 => ?_)
  · skip
    try simp at hc0
    refine t_skip ?_
    refine n_then ?_
    refine t_seq ?_
    refine t_block ?_
    refine t_seq ?_
    refine t_region ?_
    refine l_q rfl rfl rfl (q_move rfl rfl) ?_
    refine l_q rfl rfl rfl (q_assign rfl rfl) ?_
    refine l_nil ?_
    refine n_then ?_
    refine t_seq ?_
    refine t_region ?_
    refine l_q rfl rfl rfl (q_move rfl rfl) ?_
    refine l_q rfl rfl rfl (q_move rfl rfl) ?_
    refine l_q rfl rfl rfl (q_move rfl rfl) ?_
    refine l_q rfl rfl rfl ((by first | exact q_indexAddrVN rfl Tryd.underlying22 ti32 rfl rfl (by omega) | exact q_indexAddrN rfl Tryd.underlying22 ti32 rfl rfl (Sl.shape hv (List.length_map _)) (by omega) | exact q_indexAddrV rfl Tryd.underlying22 ti32 rfl rfl (by omega) | exact q_indexAddr rfl Tryd.underlying22 ti32 rfl rfl (Sl.shape hv (List.length_map _)) (by omega))) ?_
    refine l_q rfl rfl rfl ((by first | exact q_load_rowA rfl Tryd.underlying32 ti32 rfl rfl rfl | exact q_load_agg rfl Tryd.underlying32 ti32 rfl rfl (rds_vr (i := i) hv (by omega)))) ?_
    refine l_q rfl rfl rfl (quiet_callC (cs := [.pointer (some ⟨b, 0, none⟩)]) rfl rfl rfl rfl rfl Tryd.func39 (by kernel_rfl) rfl ((fun w hw => worth1_pure (nth l i vr0) b n w (hb.mono (Le.of_st hw))))) ?_
    refine l_nil ?_
    refine n_then ?_
    refine t_cond rfl (fun hc1 => ?_) (fun hc1 => ?_)
    · skip
      refine t_seq ?_
      refine t_region ?_
      refine l_q rfl rfl rfl (q_move rfl rfl) ?_
      refine l_q rfl rfl rfl (q_assign rfl rfl) ?_
      refine l_nil ?_
      refine n_then ?_
      refine t_ret ?_
      refine n_ret_block ?_
      refine n_ret_then ?_
      refine n_ret_then ?_
      refine n_ret_block ?_
      refine n_ret_then ?_
      refine n_ret1 rfl rfl (fun w' hw => ?_)
      -- leaf 0
      refine ⟨?_, hw.below⟩
      rw [hx, drop_nth vr0 (by omega), vIdx, if_pos (of_decide_eq_true hc1)]
    · skip
      refine t_skip ?_
      refine n_block ?_
      refine n_then ?_
      refine t_region ?_
      refine l_q rfl rfl rfl (q_add64 rfl rfl rfl (by omega)) ?_
      refine l_q rfl rfl rfl (q_move rfl rfl) ?_
      refine l_nil ?_
      refine n_roundE (i + 1) ?_ ?_ (sub_cons rfl sub_nil) (sub_cons rfl (sub_cons rfl (sub_cons rfl sub_nil))) (fun _ h => by try dsimp only; exact subC_st h)
      · try dsimp only
        refine ⟨by omega, hx.trans ?_⟩
        rw [drop_nth vr0 (by omega), vIdx, if_neg (of_decide_eq_false hc1)]
      · try dsimp only
        omega
  · skip
    try simp at hc0
    refine t_exit ?_
    refine n_exit_then ?_
    refine n_exit_then ?_
    refine n_exit_block ?_
    refine n_then ?_
    refine t_seq ?_
    refine t_region ?_
    refine l_q rfl rfl rfl (q_assign rfl rfl) ?_
    refine l_nil ?_
    refine n_then ?_
    refine t_ret ?_
    refine n_ret1 rfl rfl (fun w' hw => ?_)
    -- leaf 1
    refine ⟨?_, hw.below⟩
    rw [hx, List.drop_of_length_le (by omega)]; rfl
end Go.Tri
