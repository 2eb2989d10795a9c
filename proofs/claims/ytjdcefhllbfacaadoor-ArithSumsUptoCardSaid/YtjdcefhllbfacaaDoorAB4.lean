/-
  Assignments compared; a number as a text; awake.
-/
import Derived.Test.YtjdcefhllbfacaaDoorAB3
import Derived.Test.YtjdcefhllbfacaaDoorPArN
namespace Go.Tri
open Go.Proofs Go.RowKit
theorem wrap_u64_int {n : Int} (h : 0 ≤ n ∧ n ≤ 18446744073709551615) : IntKind.u64.wrap n = n := IntWalk.u64_in n h
theorem dec_neg {n : Int} (h : -9223372036854775808 ≤ n ∧ n ≤ 9223372036854775807) (h0 : n < 0) : IntKind.u64.wrap (-(IntKind.u64.wrap n)) = (n.natAbs : Int) := by
  rw [IntKind.wrap_u64, IntKind.wrap_u64]; omega
theorem dec_step {u : Nat} {t l : List UInt8} (h : Lib.decDigits u ++ t = l) (hu : 10 ≤ u) : Lib.decDigits (u / 10) ++ (UInt8.ofNat (48 + u % 10) :: t) = l := by
  rw [digits_ge (by omega), List.append_assoc] at h
  exact h
theorem dec_last {u : Nat} {t l : List UInt8} (h : Lib.decDigits u ++ t = l) (hu : u / 10 = 0) : [UInt8.ofNat (48 + u % 10)] ++ t = l := by
  rw [digits_lt (by omega)] at h
  exact h
theorem dec_len (n : Int) (h : -9223372036854775808 ≤ n ∧ n ≤ 9223372036854775807) : (Lib.decDigits n.natAbs).length ≤ 1000 := by
  have h1 := itoa_len n h
  unfold Lib.itoa at h1
  split at h1
  · rw [List.length_cons] at h1; omega
  · rw [show n.toNat = n.natAbs by omega] at h1; exact h1
theorem awake_ev : evalP [120, 61, 49, 43, 50, 42, 51] (([] : List Vr).map Vr.nv) = (7, [([120], 7)], 0) := by kernel_rfl
set_option maxRecDepth 10000 in
theorem same_pure (v u : Value) (l k : List Ass) (w : World) (hl : l.length ≤ 1000000000) (hv : Sl (look w) 2 v (l.map asC)) (hu : Sl (look w) 2 u (k.map asC)) : Pure Tryd.prog 9 [v, u] w (.bool (decide (l = k))) := by
  refine enter Tryd.func9 rfl Tryd.ntmps9 rfl (St.start w (look w) (Le.refl _)) ?_
  refine t_seq ?_
  refine t_region ?_
  refine l_q rfl rfl rfl (q_assign rfl rfl) ?_
  refine l_nil ?_
  refine n_then ?_
  refine t_seq ?_
  refine t_seq ?_
  refine t_region ?_
  refine l_q rfl rfl rfl (q_move rfl rfl) ?_
  refine l_q rfl rfl rfl ((by first | exact q_lenV rfl Tryd.underlying24 rfl | exact q_len rfl Tryd.underlying24 rfl (Sl.lenOf hv (List.length_map _)) | exact q_len rfl Tryd.underlying24 rfl (Sl.lenOf hu (List.length_map _)))) ?_
  refine l_q rfl rfl rfl (q_move rfl rfl) ?_
  refine l_q rfl rfl rfl ((by first | exact q_lenV rfl Tryd.underlying24 rfl | exact q_len rfl Tryd.underlying24 rfl (Sl.lenOf hv (List.length_map _)) | exact q_len rfl Tryd.underlying24 rfl (Sl.lenOf hu (List.length_map _)))) ?_
  refine l_q rfl rfl rfl (q_neq rfl rfl rfl) ?_
  refine l_nil ?_
  refine n_then ?_
  refine t_cond rfl (fun hc0 => ?_) (fun hc0 => ?_)
  · skip
    try simp at hc0
    have hne : l ≠ k := fun h => by subst h; omega
    refine t_seq ?_
    refine t_region ?_
    refine l_q rfl rfl rfl (q_assign rfl rfl) ?_
    refine l_nil ?_
    refine n_then ?_
    refine t_ret ?_
    refine n_ret_then ?_
    refine n_ret1 rfl rfl (fun w' hw => ?_)
    -- leaf 0
    refine ⟨?_, hw.below⟩
    rw [decide_eq_false hne]
  · skip
    try simp at hc0
    have hlen : l.length = k.length := by omega
    refine t_skip ?_
    refine n_then ?_
    refine t_seq ?_
    refine t_seq ?_
    refine t_region ?_
    refine l_q rfl rfl rfl (q_assign rfl rfl) ?_
    refine l_nil ?_
    refine n_then ?_
    refine t_block ?_
    refine t_loopE (ι := Nat) (fun zz => zz ≤ l.length ∧ ∀ j, j < zz → nth l j as0 = nth k j as0) (fun zz => l.length - zz) (fun zz => [(5, .int .i64 (zz : Int))]) [(0, _), (1, _), (10, _)] (fun zz => look w) (fun zz => []) 0 ?_ (sub_cons rfl sub_nil) (sub_cons rfl (sub_cons rfl (sub_cons rfl sub_nil))) (fun _ h => subC_st h) ?_
    · try dsimp only
      exact ⟨Nat.zero_le _, fun j h => absurd h (Nat.not_lt_zero _)⟩
    rintro i ⟨hi, hno⟩
    try dsimp only at *
    refine t_seq ?_
    refine t_seq ?_
    refine t_region ?_
    refine l_q rfl rfl rfl (q_move rfl rfl) ?_
    refine l_q rfl rfl rfl (q_move rfl rfl) ?_
    refine l_q rfl rfl rfl ((by first | exact q_lenV rfl Tryd.underlying24 rfl | exact q_len rfl Tryd.underlying24 rfl (Sl.lenOf hv (List.length_map _)) | exact q_len rfl Tryd.underlying24 rfl (Sl.lenOf hu (List.length_map _)))) ?_
    refine l_q rfl rfl rfl (q_lss rfl rfl rfl) ?_
    refine l_nil ?_
    refine n_then ?_
    refine t_cond rfl (fun hc1 => ?_) (fun hc1 => ?_)
    · skip
      try simp at hc1
      refine t_skip ?_
      refine n_then ?_
      refine t_seq ?_
      refine t_block ?_
      refine t_seq ?_
      refine t_qdraw mo (by kernel_rfl) (fun _ _ _ _ _ h => h) ?_
      refine s_q rfl rfl rfl (q_move rfl rfl) ?_
      refine s_q rfl rfl rfl (q_move rfl rfl) ?_
      refine s_q rfl rfl rfl ((by first | exact q_indexAddrVN rfl Tryd.underlying24 ti37 rfl rfl (by omega) | exact q_indexAddrN rfl Tryd.underlying24 ti37 rfl rfl (Sl.shape hv (List.length_map _)) (by omega) | exact q_indexAddrN rfl Tryd.underlying24 ti37 rfl rfl (Sl.shape hu (List.length_map _)) (by omega) | exact q_indexAddrV rfl Tryd.underlying24 ti37 rfl rfl (by omega) | exact q_indexAddr rfl Tryd.underlying24 ti37 rfl rfl (Sl.shape hv (List.length_map _)) (by omega) | exact q_indexAddr rfl Tryd.underlying24 ti37 rfl rfl (Sl.shape hu (List.length_map _)) (by omega))) ?_
      refine s_q rfl rfl rfl ((by first | exact q_load_rowA rfl Tryd.underlying37 ti37 rfl rfl rfl | exact q_load_agg rfl Tryd.underlying37 ti37 rfl rfl (rds_as (i := i) hv (by omega)) | exact q_load_agg rfl Tryd.underlying37 ti37 rfl rfl (rds_as (i := i) hu (by omega)))) ?_
      refine s_q rfl rfl rfl (q_move rfl rfl) ?_
      refine s_q rfl rfl rfl (q_move rfl rfl) ?_
      refine s_q rfl rfl rfl ((by first | exact q_indexAddrVN rfl Tryd.underlying24 ti37 rfl rfl (by omega) | exact q_indexAddrN rfl Tryd.underlying24 ti37 rfl rfl (Sl.shape hv (List.length_map _)) (by omega) | exact q_indexAddrN rfl Tryd.underlying24 ti37 rfl rfl (Sl.shape hu (List.length_map _)) (by omega) | exact q_indexAddrV rfl Tryd.underlying24 ti37 rfl rfl (by omega) | exact q_indexAddr rfl Tryd.underlying24 ti37 rfl rfl (Sl.shape hv (List.length_map _)) (by omega) | exact q_indexAddr rfl Tryd.underlying24 ti37 rfl rfl (Sl.shape hu (List.length_map _)) (by omega))) ?_
      refine s_q rfl rfl rfl ((by first | exact q_load_rowA rfl Tryd.underlying37 ti37 rfl rfl rfl | exact q_load_agg rfl Tryd.underlying37 ti37 rfl rfl (rds_as (i := i) hv (by omega)) | exact q_load_agg rfl Tryd.underlying37 ti37 rfl rfl (rds_as (i := i) hu (by omega)))) ?_
      refine s_q rfl rfl rfl (q_neq_st rfl (by kernel_rfl) rfl rfl (eqAs _ _)) ?_
      refine s_done ?_
      refine n_then ?_
      refine t_cond rfl (fun hc2 => ?_) (fun hc2 => ?_)
      · skip
        have hd : nth l i as0 ≠ nth k i as0 := by simpa using hc2
        have hne : l ≠ k := fun h => hd (by rw [h])
        refine t_seq ?_
        refine t_region ?_
        refine l_q rfl rfl rfl (q_assign rfl rfl) ?_
        refine l_nil ?_
        refine n_then ?_
        refine t_ret ?_
        refine n_ret_block ?_
        refine n_ret_then ?_
        refine n_ret_then ?_
        refine n_ret_block ?_
        refine n_ret_then ?_
        refine n_ret1 rfl rfl (fun w' hw => ?_)
        -- leaf 1
        refine ⟨?_, hw.below⟩
        rw [decide_eq_false hne]
      · skip
        refine t_skip ?_
        refine n_block ?_
        refine n_then ?_
        refine t_region ?_
        refine l_q rfl rfl rfl (q_move rfl rfl) ?_
        refine l_q rfl rfl rfl (q_add64 rfl rfl rfl (by omega)) ?_
        refine l_q rfl rfl rfl (q_assign rfl rfl) ?_
        refine l_nil ?_
        refine n_roundE (i + 1) ?_ ?_ (sub_cons rfl sub_nil) (sub_cons rfl (sub_cons rfl (sub_cons rfl sub_nil))) (fun _ h => by try dsimp only; exact subC_st h)
        · try dsimp only
          refine ⟨by omega, fun j hj => ?_⟩
          rcases Nat.lt_succ_iff_lt_or_eq.1 hj with h | rfl
          · exact hno j h
          · exact by simpa using hc2
        · try dsimp only
          omega
    · skip
      try simp at hc1
      refine t_exit ?_
      refine n_exit_then ?_
      refine n_exit_then ?_
      refine n_exit_block ?_
      refine n_then ?_
      refine t_seq ?_
      refine t_region ?_
      refine l_q rfl rfl rfl (q_assign rfl rfl) ?_
      refine l_nil ?_
      refine n_then ?_
      refine t_ret ?_
      refine n_ret1 rfl rfl (fun w' hw => ?_)
      -- leaf 2
      refine ⟨?_, hw.below⟩
      rw [decide_eq_true (same_nth hlen (fun j hj => hno j (by omega)))]
set_option maxRecDepth 10000 in
theorem dec_pure (n : Int) (w : World) (hn : -9223372036854775808 ≤ n ∧ n ≤ 9223372036854775807) : Pure Tryd.prog 10 [.int .i64 n] w (str (Lib.itoa n)) := by
  refine enter Tryd.func10 rfl Tryd.ntmps10 rfl (St.start w (look w) (Le.refl _)) ?_
  refine t_seq ?_
  refine t_region ?_
  refine l_q rfl rfl rfl (q_assign rfl rfl) ?_
  refine l_nil ?_
  refine n_then ?_
  refine t_seq ?_
  refine t_region ?_
  refine l_q rfl rfl rfl (q_move rfl rfl) ?_
  refine l_q rfl rfl rfl (q_conv_int rfl Tryd.underlying2 Tryd.underlying33 rfl rfl) ?_
  refine l_q rfl rfl rfl (q_assign rfl rfl) ?_
  refine l_nil ?_
  refine n_then ?_
  refine t_cutE (ι := Unit) (fun _ => True) (fun _ => [(3, .int .u64 (n.natAbs : Int))]) [(0, _), (2, _)] (fun _ => look w) (fun _ => []) (sub_cons rfl (sub_cons rfl sub_nil)) ?_ ?_
  · skip
    refine t_seq ?_
    refine t_region ?_
    refine l_q rfl rfl rfl (q_move rfl rfl) ?_
    refine l_q rfl rfl rfl (q_lss rfl rfl rfl) ?_
    refine l_nil ?_
    refine n_then ?_
    refine t_cond rfl (fun hc0 => ?_) (fun hc0 => ?_)
    · skip
      try simp at hc0
      have hneg : n < 0 := by omega
      refine t_region ?_
      refine l_q rfl rfl rfl (q_move rfl rfl) ?_
      refine l_q rfl rfl rfl (q_neg rfl rfl) ?_
      refine l_q rfl rfl rfl (q_assign rfl rfl) ?_
      refine l_nil ?_
      refine n_cut (()) ?_ (sub_cons' rfl (congrArg (Value.int IntKind.u64) (by rw [show IntKind.u64.wrap (-(IntKind.u64.wrap n)) = (n.natAbs : Int) from dec_neg hn (by omega)])) (sub_nil)) (sub_cons rfl (sub_cons rfl sub_nil)) (fun _ h => by try dsimp only; exact subC_st h)
      · trivial
    · skip
      try simp at hc0
      have hneg : ¬ n < 0 := by omega
      refine t_skip ?_
      refine n_cut (()) ?_ (sub_cons' rfl (congrArg (Value.int IntKind.u64) (by rw [wrap_u64_int (by omega)]; omega)) (sub_nil)) (sub_cons rfl (sub_cons rfl sub_nil)) (fun _ h => by try dsimp only; exact subC_st h)
      · trivial
  rintro _ _
  refine t_seq ?_
  refine t_region ?_
  refine l_q rfl rfl rfl (q_assign rfl rfl) ?_
  refine l_nil ?_
  refine n_then ?_
  refine t_cutE (ι := Unit) (fun _ => True) (fun _ => [(4, str (Lib.decDigits n.natAbs))]) [(0, _), (2, _)] (fun _ => look w) (fun _ => []) (sub_cons rfl (sub_cons rfl sub_nil)) ?_ ?_
  · skip
    refine t_block ?_
    refine t_loopE (ι := Nat × List UInt8) (fun zz => Lib.decDigits zz.1 ++ zz.2 = Lib.decDigits n.natAbs ∧ zz.1 ≤ 9223372036854775808 ∧ zz.2.length ≤ 1000 + (Lib.decDigits n.natAbs).length) (fun zz => zz.1) (fun zz => [(3, .int .u64 (zz.1 : Int)), (4, str zz.2)]) [(0, _), (2, _)] (fun zz => look w) (fun zz => []) (n.natAbs, []) ?_ (sub_cons rfl (sub_cons rfl sub_nil)) (sub_cons rfl (sub_cons rfl sub_nil)) (fun _ h => subC_st h) ?_
    · try dsimp only
      exact ⟨List.append_nil _, by omega, Nat.zero_le _⟩
    rintro ⟨u, t⟩ ⟨hx, hu, htl⟩
    try dsimp only at *
    have hxl := congrArg List.length hx
    rw [List.length_append] at hxl
    have hdl := dec_len n hn
    refine t_block ?_
    refine t_seq ?_
    refine t_region ?_
    refine l_q rfl rfl rfl (q_move rfl rfl) ?_
    refine l_q rfl rfl rfl (q_rem rfl rfl rfl (by omega)) ?_
    rw [show ((u : Int)).tmod 10 = ((u % 10 : Nat) : Int) by rw [Int.tmod_eq_emod_of_nonneg (by omega)]; omega]
    refine l_q rfl rfl rfl (q_addU 48 (u % 10) rfl rfl rfl (by omega)) ?_
    refine l_q rfl rfl rfl (q_conv_u8 (48 + u % 10) rfl Tryd.underlying33 Tryd.underlying5 rfl rfl) ?_
    refine l_e rfl rfl rfl (e_buildSlice1 rfl Tryd.underlying48 ti5 rfl rfl rfl (by first | exact One.cells (by assumption) | rfl) rfl) ?_
    rintro _ _ _ ⟨b15, rfl, rfl, rfl⟩
    refine l_heap (H' := tvec 5 1 byC (.slice (some ⟨b15, 0, none⟩) 1 1) [UInt8.ofNat (48 + u % 10)] :: _) ?_ (fun _ h => st_rowVec h rfl (by decide))
    refine l_q rfl rfl rfl (q_bytes_str rfl Tryd.underlying48 Tryd.underlying9 Tryd.underlying5 rfl) ?_
    refine l_q rfl rfl rfl (q_move rfl rfl) ?_
    refine l_q rfl rfl rfl (q_cat rfl rfl rfl (by first | omega | (simp only [List.length_append, List.length_cons, List.length_nil, List.length_take, List.length_drop]; omega))) ?_
    refine l_q rfl rfl rfl (q_assign rfl rfl) ?_
    refine l_nil ?_
    refine n_then ?_
    refine t_seq ?_
    refine t_region ?_
    refine l_q rfl rfl rfl (q_move rfl rfl) ?_
    refine l_q rfl rfl rfl (q_quo rfl rfl rfl (by omega)) ?_
    rw [show IntKind.u64.wrap (((u : Int)).tdiv 10) = ((u / 10 : Nat) : Int) by rw [Int.tdiv_eq_ediv_of_nonneg (by omega), wrap_u64_int (by omega)]; omega]
    refine l_q rfl rfl rfl (q_assign rfl rfl) ?_
    refine l_nil ?_
    refine n_then ?_
    refine t_seq ?_
    refine t_region ?_
    refine l_q rfl rfl rfl (q_move rfl rfl) ?_
    refine l_q rfl rfl rfl (q_eql rfl rfl rfl) ?_
    refine l_nil ?_
    refine n_then ?_
    refine t_cond rfl (fun hc1 => ?_) (fun hc1 => ?_)
    · skip
      try simp at hc1
      refine t_exit ?_
      refine n_exit_other rfl ?_
      refine n_exit_then ?_
      refine n_exit_block ?_
      refine n_cut (()) ?_ (sub_cons' rfl (by rw [dec_last hx (by omega)]) (sub_nil)) (sub_cons rfl (sub_cons rfl sub_nil)) (fun _ h => by try dsimp only; exact subC_st h)
      · trivial
    · skip
      try simp at hc1
      refine t_skip ?_
      refine n_block ?_
      refine n_roundE ((u / 10, UInt8.ofNat (48 + u % 10) :: t)) ?_ ?_ (sub_cons rfl (sub_cons rfl sub_nil)) (sub_cons rfl (sub_cons rfl sub_nil)) (fun _ h => by try dsimp only; exact subC_st h)
      · try dsimp only
        refine ⟨dec_step hx (by omega), by omega, ?_⟩
        rw [List.length_cons]; omega
      · try dsimp only
        omega
  rintro _ _
  refine t_seq ?_
  refine t_seq ?_
  refine t_region ?_
  refine l_q rfl rfl rfl (q_move rfl rfl) ?_
  refine l_q rfl rfl rfl (q_lss rfl rfl rfl) ?_
  refine l_nil ?_
  refine n_then ?_
  refine t_cond rfl (fun hc2 => ?_) (fun hc2 => ?_)
  · skip
    try simp at hc2
    have hneg : n < 0 := by omega
    refine t_seq ?_
    have hdl := dec_len n hn
    refine t_region ?_
    refine l_q rfl rfl rfl (q_move rfl rfl) ?_
    refine l_q rfl rfl rfl (q_cat rfl rfl rfl (by first | omega | (simp only [List.length_append, List.length_cons, List.length_nil, List.length_take, List.length_drop]; omega))) ?_
    refine l_q rfl rfl rfl (q_assign rfl rfl) ?_
    refine l_nil ?_
    refine n_then ?_
    refine t_ret ?_
    refine n_ret_then ?_
    refine n_ret1 rfl rfl (fun w' hw => ?_)
    -- leaf 0
    refine ⟨?_, hw.below⟩
    unfold Lib.itoa
    rw [if_pos hneg]; rfl
  · skip
    try simp at hc2
    have hneg : ¬ n < 0 := by omega
    refine t_skip ?_
    refine n_then ?_
    refine t_seq ?_
    refine t_region ?_
    refine l_q rfl rfl rfl (q_move rfl rfl) ?_
    refine l_q rfl rfl rfl (q_assign rfl rfl) ?_
    refine l_nil ?_
    refine n_then ?_
    refine t_ret ?_
    refine n_ret1 rfl rfl (fun w' hw => ?_)
    -- leaf 1
    refine ⟨?_, hw.below⟩
    unfold Lib.itoa
    rw [if_neg hneg, show n.toNat = n.natAbs by omega]
set_option maxRecDepth 10000 in
theorem awake_pure (w : World) (hG : EnvI (look w)) : Pure Tryd.prog 7 [] w (.bool true) := by
  refine enter Tryd.func7 rfl Tryd.ntmps7 rfl (St.start w (look w) (Le.refl _)) ?_
  refine t_seq ?_
  refine t_region ?_
  refine l_q rfl rfl rfl (q_assign rfl rfl) ?_
  refine l_nil ?_
  refine n_then ?_
  refine t_seq ?_
  refine t_region ?_
  refine l_e rfl rfl rfl (eff_call rfl rfl rfl Tryd.func8 (by kernel_rfl) rfl (fun w hw => eval_calls [120, 61, 49, 43, 50, 42, 51] nilS [] _ _ _ w (by decide) (nil_vars _) ⟨Nat.zero_le _, fun _ h => by cases h⟩ hG hw)) ?_
  rintro _ J5 _ ⟨hJ5, rfl, sl5, rfl, hs5⟩
  rw [awake_ev] at hs5 ⊢
  refine l_q rfl rfl rfl (q_move rfl rfl) ?_
  refine l_q rfl rfl rfl (q_extract rfl rfl rfl) ?_
  refine l_q rfl rfl rfl (q_extract rfl rfl rfl) ?_
  refine l_q rfl rfl rfl (q_extract rfl rfl rfl) ?_
  refine l_q rfl rfl rfl (q_assign rfl rfl) ?_
  refine l_q rfl rfl rfl (q_assign rfl rfl) ?_
  refine l_q rfl rfl rfl (q_assign rfl rfl) ?_
  refine l_nil ?_
  refine n_then ?_
  refine t_seq ?_
  refine t_qreg ?_
  refine s_q rfl rfl rfl (q_move rfl rfl) ?_
  refine s_q rfl rfl rfl (q_eql rfl rfl rfl) ?_
  refine s_q rfl rfl rfl (q_move rfl rfl) ?_
  refine s_and2 2 2 11 14 13 _ _ rfl rfl rfl rfl rfl rfl (fun h14 => by
      try simp at h14
      refine s_g rfl rfl rfl rfl rfl rfl (q_move rfl rfl) ?_
      refine s_g rfl rfl rfl rfl rfl rfl (q_eql rfl rfl rfl) ?_
      exact s_val rfl
    ) (wanted_n rfl) rfl rfl rfl ?_
  refine s_q rfl rfl rfl (q_move rfl rfl) ?_
  refine s_and2 3 6 15 19 18 _ _ rfl rfl rfl rfl rfl rfl (fun h19 => by
      try simp at h19
      refine s_g rfl rfl rfl rfl rfl rfl (q_move rfl rfl) ?_
      refine s_g rfl rfl rfl rfl rfl rfl ((by first | exact q_lenV rfl Tryd.underlying24 rfl | exact q_len rfl Tryd.underlying24 rfl (Sl.lenOf (n := 1) hs5 rfl))) ?_
      refine s_g rfl rfl rfl rfl rfl rfl (q_eql rfl rfl rfl) ?_
      exact s_val rfl
    ) (wanted_n rfl) rfl rfl rfl ?_
  refine s_q rfl rfl rfl (q_move rfl rfl) ?_
  refine s_and2 5 11 20 26 25 _ _ rfl rfl rfl rfl rfl rfl (fun h26 => by
      try simp at h26
      refine s_g rfl rfl rfl rfl rfl rfl (q_move rfl rfl) ?_
      refine s_g rfl rfl rfl rfl rfl rfl ((by first | exact q_indexAddrVN rfl Tryd.underlying24 ti37 rfl rfl (by omega) | exact q_indexAddrN rfl Tryd.underlying24 ti37 rfl rfl (Sl.shape (n := 1) hs5 rfl) (by omega) | exact q_indexAddrV rfl Tryd.underlying24 ti37 rfl rfl (by omega) | exact q_indexAddr rfl Tryd.underlying24 ti37 rfl rfl (Sl.shape (n := 1) hs5 rfl) (by omega))) ?_
      refine s_g rfl rfl rfl rfl rfl rfl ((by first | exact q_load_rowA rfl Tryd.underlying37 ti37 rfl rfl rfl | exact q_load_agg rfl Tryd.underlying37 ti37 rfl rfl (rds_as (l := [([120], 7)]) (i := 0) hs5 (by decide)))) ?_
      refine s_g rfl rfl rfl rfl rfl rfl (q_build (pl := [(_, _), (_, _)]) (cs := (asC ([120], 7)).toArray) rfl Tryd.underlying37 ti37 ⟨rfl, ⟨_, _, ti9⟩, rfl, ⟨_, _, ti2⟩, trivial⟩ rfl rfl) ?_
      refine s_g rfl rfl rfl rfl rfl rfl (q_eql_st rfl (by kernel_rfl) rfl rfl (eqAs _ _)) ?_
      exact s_val rfl
    ) (wanted_n rfl) rfl rfl rfl ?_
  refine s_q rfl rfl rfl (q_move rfl rfl) ?_
  refine s_q rfl rfl rfl (q_pick_b rfl rfl) ?_
  refine s_q rfl rfl rfl (q_assign rfl rfl) ?_
  refine s_done ?_
  refine n_then ?_
  refine t_ret ?_
  refine n_ret1 rfl rfl (fun w' hw => ?_)
  -- leaf 0
  refine ⟨?_, (hw.less hJ5).below⟩
  refine congrArg (fun b => Ending.returned (Value.bool b)) (?_ : _ = true)
  decide
end Go.Tri
