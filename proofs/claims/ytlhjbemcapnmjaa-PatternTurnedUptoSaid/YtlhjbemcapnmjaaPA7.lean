/-
  Texts as patterns.
-/
import Derived.Test.YtlhjbemcapnmjaaPA6
namespace Go.Tri
open Go.Proofs Go.RowKit
theorem run_ibs (s : List UInt8) (c : UInt8) (w : World) : (Extern.BytealgIndexByte.indexByte #[str s, u8 c]).run Try.prog w = .ok (.int .i64 (Lib.indexByte s c)) w := by
  unfold str u8
  rw [Lib.run_indexByteString]
  simp
set_option maxRecDepth 10000 in
theorem slIndexByte_pure (s : List UInt8) (c : UInt8) (w : World) : Pure Try.prog 33 [str s, u8 c] w (.int .i64 (Lib.indexByte s c)) := by
  refine enter Try.func33 rfl Try.ntmps33 rfl (St.start w (look w) (Le.refl _)) ?_
  refine t_seq ?_
  refine t_region ?_
  refine l_q rfl rfl rfl (q_assign rfl rfl) ?_
  refine l_nil ?_
  refine n_then ?_
  refine t_seq ?_
  refine t_region ?_
  refine l_q rfl rfl rfl (q_move rfl rfl) ?_
  refine l_q rfl rfl rfl (q_move rfl rfl) ?_
  refine l_q rfl rfl rfl (quiet_extern rfl rfl rfl Try.func36 (by kernel_rfl) rfl (by kernel_rfl) (show Extern.find _ = some Extern.BytealgIndexByte.indexByte by kernel_rfl) (fun w => run_ibs s c w)) ?_
  refine l_q rfl rfl rfl (q_assign rfl rfl) ?_
  refine l_nil ?_
  refine n_then ?_
  refine t_ret ?_
  refine n_ret1 rfl rfl (fun w' hw => ?_)
  -- leaf 0
  exact ⟨rfl, hw.below⟩
set_option maxRecDepth 10000 in
theorem indexByte_pure (s : List UInt8) (c : UInt8) (w : World) : Pure Try.prog 28 [str s, u8 c] w (.int .i64 (Lib.indexByte s c)) := by
  refine enter Try.func28 rfl Try.ntmps28 rfl (St.start w (look w) (Le.refl _)) ?_
  refine t_seq ?_
  refine t_region ?_
  refine l_q rfl rfl rfl (q_assign rfl rfl) ?_
  refine l_nil ?_
  refine n_then ?_
  refine t_seq ?_
  refine t_region ?_
  refine l_q rfl rfl rfl (q_move rfl rfl) ?_
  refine l_q rfl rfl rfl (q_move rfl rfl) ?_
  refine l_q rfl rfl rfl (quiet_call rfl rfl rfl Try.func33 (by kernel_rfl) rfl (fun w _ => slIndexByte_pure s c w)) ?_
  refine l_q rfl rfl rfl (q_assign rfl rfl) ?_
  refine l_nil ?_
  refine n_then ?_
  refine t_ret ?_
  refine n_ret1 rfl rfl (fun w' hw => ?_)
  -- leaf 0
  exact ⟨rfl, hw.below⟩
set_option maxRecDepth 10000 in
theorem of_calls (s : List UInt8) (I : Look) (F : List HA) (w0 w : World) (hs : s.length ≤ 1000000000) (hw0 : St w0 I F w) : Calls Try.prog 13 [str s].toArray w (fun e w' => ∃ v, e = .returned v ∧ ∃ I' H', (Le I I' ∧ F = H' ∧ Sl I' 2 v ((ofP s).map chC)) ∧ St w I' H' w') := by
  refine enter Try.func13 rfl Try.ntmps13 rfl (hw0.self) ?_
  refine t_seq ?_
  refine t_region ?_
  refine l_q rfl rfl rfl (q_assign rfl rfl) ?_
  refine l_nil ?_
  refine n_then ?_
  refine t_seq ?_
  refine t_region ?_
  refine l_q rfl rfl rfl (q_assign rfl rfl) ?_
  refine l_nil ?_
  refine n_then ?_
  refine t_seq ?_
  refine t_seq ?_
  refine t_region ?_
  refine l_q rfl rfl rfl (q_move rfl rfl) ?_
  refine l_q rfl rfl rfl (q_assign rfl rfl) ?_
  refine l_nil ?_
  refine n_then ?_
  refine t_block ?_
  refine t_loopE (ι := List UInt8 × Value × List Ch) (fun zz => ofP s = zz.2.2 ++ ofP zz.1 ∧ zz.2.2.length + zz.1.length ≤ s.length) (fun zz => zz.1.length) (fun zz => [(4, str zz.1), (3, zz.2.1)]) [(0, _), (2, _)] (fun zz => I) (fun zz => (tvec 29 2 chC zz.2.1 zz.2.2 :: F)) (s, .slice none 0 0, []) ?_ (sub_cons rfl (sub_cons rfl sub_nil)) (sub_cons rfl (sub_cons rfl sub_nil)) (fun _ h => st_nilT 29 2 chC h) ?_
  · try dsimp only
    exact ⟨rfl, by simp⟩
  rintro ⟨r, vo, out⟩ ⟨hof, hol⟩
  try dsimp only at *
  refine t_seq ?_
  refine t_seq ?_
  refine t_region ?_
  refine l_q rfl rfl rfl (q_move rfl rfl) ?_
  refine l_q rfl rfl rfl (q_neq_str rfl rfl rfl) ?_
  refine l_nil ?_
  refine n_then ?_
  refine t_cond rfl (fun hc0 => ?_) (fun hc0 => ?_)
  · skip
    have hrn : r ≠ [] := of_decide_eq_true hc0
    have hr0 := List.length_pos_iff.2 hrn
    refine t_skip ?_
    refine n_then ?_
    refine t_seq ?_
    refine t_block ?_
    refine t_seq ?_
    refine t_region ?_
    refine l_q rfl rfl rfl (q_move rfl rfl) ?_
    refine l_q rfl rfl rfl ((by first | exact q_index_strN rfl Try.underlying9 rfl rfl (by omega) | exact q_index_str rfl Try.underlying9 rfl rfl (by omega))) ?_
    refine l_q rfl rfl rfl (q_eql_u8c rfl rfl rfl rfl) ?_
    refine l_q rfl rfl rfl (q_assign rfl rfl) ?_
    refine l_nil ?_
    refine n_then ?_
    refine t_cutE (ι := List UInt8) (fun zz => 1 ≤ zz.length ∧ zz.length ≤ r.length ∧ ofP r = ⟨nth zz 0 0, decide (nth r 0 0 = 92)⟩ :: ofP (zz.drop 1)) (fun zz => [(4, str zz)]) [(3, _), (0, _), (2, _), (8, _), (5, _)] (fun zz => I) (fun zz => (tvec 29 2 chC vo out :: F)) (sub_cons rfl (sub_cons rfl (sub_cons rfl (sub_cons rfl (sub_cons rfl sub_nil))))) ?_ ?_
    · skip
      refine t_seq ?_
      refine t_qreg ?_
      refine s_q rfl rfl rfl (q_move rfl rfl) ?_
      refine s_q rfl rfl rfl (q_move rfl rfl) ?_
      refine s_and2 3 1 15 19 18 _ _ rfl rfl rfl rfl rfl rfl (fun h19 => by
          try simp at h19
          refine s_g rfl rfl rfl rfl rfl rfl (q_move rfl rfl) ?_
          refine s_g rfl rfl rfl rfl rfl rfl (q_len_str rfl Try.underlying9 rfl) ?_
          refine s_g rfl rfl rfl rfl rfl rfl (q_gtr rfl rfl rfl) ?_
          exact s_val rfl
        ) (wanted_n rfl) rfl rfl rfl ?_
      refine s_done ?_
      refine n_then ?_
      refine t_cond rfl (fun hc1 => ?_) (fun hc1 => ?_)
      · skip
        refine t_region ?_
        refine l_q rfl rfl rfl (q_move rfl rfl) ?_
        refine l_q rfl rfl rfl (q_slice_str_from rfl Try.underlying9 rfl rfl (by omega)) ?_
        refine l_q rfl rfl rfl (q_assign rfl rfl) ?_
        refine l_nil ?_
        refine n_cut (r.drop 1) ?_ (sub_cons rfl sub_nil) (sub_cons rfl (sub_cons rfl (sub_cons rfl (sub_cons rfl (sub_cons rfl sub_nil))))) (fun _ h => by try dsimp only; exact subC_st h)
        · try dsimp only
          have h1 : (decide (nth r 0 0 = 92) && decide ((1 : Int) < (r.length : Int))) = true := hc1
          rw [Bool.and_eq_true, decide_eq_true_eq, decide_eq_true_eq] at h1
          refine ⟨by rw [List.length_drop]; omega, by rw [List.length_drop]; omega, ?_⟩
          rw [decide_eq_true h1.1]
          exact ofP_t (by rw [decide_eq_true h1.1, decide_eq_true (show 1 < r.length by omega)]; rfl)
      · skip
        refine t_skip ?_
        refine n_cut (r) ?_ (sub_cons rfl sub_nil) (sub_cons rfl (sub_cons rfl (sub_cons rfl (sub_cons rfl (sub_cons rfl sub_nil))))) (fun _ h => by try dsimp only; exact subC_st h)
        · try dsimp only
          have h1 : (decide (nth r 0 0 = 92) && decide ((1 : Int) < (r.length : Int))) = false := hc1
          refine ⟨hr0, Nat.le_refl _, ofP_f hrn ?_⟩
          rw [← h1]; congr 1; exact decide_eq_decide.2 (by omega)
    rintro r2 ⟨hr1, hrl, hr2⟩
    try dsimp only at *
    refine t_region ?_
    refine l_q rfl rfl rfl (q_move rfl rfl) ?_
    refine l_q rfl rfl rfl (q_move rfl rfl) ?_
    refine l_q rfl rfl rfl ((by first | exact q_index_strN rfl Try.underlying9 rfl rfl (by omega) | exact q_index_str rfl Try.underlying9 rfl rfl (by omega))) ?_
    refine l_q rfl rfl rfl (q_move rfl rfl) ?_
    refine l_q rfl rfl rfl (q_build (pl := [(_, _), (_, _)]) (cs := (chC ⟨nth r2 0 0, decide (nth r 0 0 = 92)⟩).toArray) rfl Try.underlying29 ti29 ⟨rfl, ⟨_, _, ti5⟩, rfl, ⟨_, _, ti4⟩, trivial⟩ rfl rfl) ?_
    refine l_e rfl rfl rfl (e_buildSlice1 rfl Try.underlying22 ti29 rfl rfl rfl (by first | exact One.cells (by assumption) | rfl) rfl) ?_
    rintro _ _ _ ⟨b27, rfl, rfl, rfl⟩
    refine l_e rfl rfl rfl (e_appendT (f := chC) (c := (⟨nth r2 0 0, decide (nth r 0 0 = 92)⟩ : Ch)) rfl Try.underlying22 ti29 rfl rfl rfl rfl rfl rfl rfl (by first | exact byC_ones _ | exact chC_ones _ | exact pcC_ones _ | simp [Value.oneCell', str, u8] | exact ones1 (by assumption)) (by simp only [maxLen]; omega) (by omega)) ?_
    rintro v28 _ _ ⟨rfl, rfl⟩
    refine l_q rfl rfl rfl (q_assign rfl rfl) ?_
    refine l_nil ?_
    refine n_block ?_
    refine n_then ?_
    refine t_region ?_
    refine l_q rfl rfl rfl (q_move rfl rfl) ?_
    refine l_q rfl rfl rfl (q_slice_str_from rfl Try.underlying9 rfl rfl (by omega)) ?_
    refine l_q rfl rfl rfl (q_assign rfl rfl) ?_
    refine l_nil ?_
    refine n_roundE ((r2.drop 1, v28, out ++ [⟨nth r2 0 0, decide (nth r 0 0 = 92)⟩])) ?_ ?_ (sub_cons rfl (sub_cons rfl sub_nil)) (sub_cons rfl (sub_cons rfl sub_nil)) (fun _ h => by try dsimp only; exact subC_st h)
    · try dsimp only
      refine ⟨by rw [hof, hr2]; simp, ?_⟩
      simp only [List.length_append, List.length_drop, List.length_cons, List.length_nil]; omega
    · try dsimp only
      rw [List.length_drop]; omega
  · skip
    have hrn : r = [] := Decidable.not_not.1 (of_decide_eq_false hc0)
    subst hrn
    have hof : ofP s = out := by rw [hof]; simp [ofP]
    refine t_exit ?_
    refine n_exit_then ?_
    refine n_exit_then ?_
    refine n_exit_block ?_
    refine n_then ?_
    refine t_seq ?_
    refine t_freezeT (f := chC) (l := out) vo (fun _ => rfl) (fun J3 hJ3 hvo => ?_)
    refine t_region ?_
    refine l_q rfl rfl rfl (q_move rfl rfl) ?_
    refine l_q rfl rfl rfl (q_assign rfl rfl) ?_
    refine l_nil ?_
    refine n_then ?_
    refine t_ret ?_
    refine n_ret1 rfl rfl (fun w' hw => ?_)
    -- leaf 0
    exact ⟨_, rfl, J3, _, ⟨hJ3, rfl, by rw [hof]; exact hvo⟩, hw⟩
set_option maxRecDepth 10000 in
theorem plain_calls (s : List UInt8) (I : Look) (F : List HA) (w0 w : World) (hs : s.length ≤ 1000000000) (hw0 : St w0 I F w) : Calls Try.prog 18 [str s].toArray w (fun e w' => ∃ v, e = .returned v ∧ ∃ I' H', (Le I I' ∧ F = H' ∧ Sl I' 2 v ((plainP s).map chC)) ∧ St w I' H' w') := by
  refine enter Try.func18 rfl Try.ntmps18 rfl (hw0.self) ?_
  refine t_seq ?_
  refine t_region ?_
  refine l_q rfl rfl rfl (q_assign rfl rfl) ?_
  refine l_nil ?_
  refine n_then ?_
  refine t_seq ?_
  refine t_region ?_
  refine l_q rfl rfl rfl (q_assign rfl rfl) ?_
  refine l_nil ?_
  refine n_then ?_
  refine t_seq ?_
  refine t_seq ?_
  refine t_region ?_
  refine l_q rfl rfl rfl (q_move rfl rfl) ?_
  refine l_e rfl rfl rfl (e_strBytes rfl Try.underlying9 Try.underlying31 Try.underlying5 rfl) ?_
  rintro v7 J7 _ ⟨hJ7, hs7, rfl⟩
  refine l_q rfl rfl rfl ((by first | exact q_lenV rfl Try.underlying31 rfl | exact q_len rfl Try.underlying31 rfl (Sl.lenOf hs7 (List.length_map _)))) ?_
  refine l_q rfl rfl rfl (q_move rfl rfl) ?_
  refine l_nil ?_
  refine n_then ?_
  refine t_block ?_
  refine t_loopE (ι := Nat × Value) (fun zz => zz.1 ≤ s.length) (fun zz => s.length - zz.1) (fun zz => [(9, .int .i64 (zz.1 : Int)), (3, zz.2)]) [(0, _), (2, _), (7, _), (8, _)] (fun zz => J7) (fun zz => (tvec 29 2 chC zz.2 (plainP (s.take zz.1)) :: F)) (0, .slice none 0 0) ?_ (sub_cons rfl (sub_cons rfl sub_nil)) (sub_cons rfl (sub_cons rfl (sub_cons rfl (sub_cons rfl sub_nil)))) (fun _ h => st_nilT 29 2 chC h) ?_
  · try dsimp only
    exact Nat.zero_le _
  rintro ⟨i, vo⟩ hi
  try dsimp only at *
  have hpl : (plainP (s.take i)).length = i := by simp [plainP]; omega
  refine t_seq ?_
  refine t_region ?_
  refine l_q rfl rfl rfl (q_lss rfl rfl rfl) ?_
  refine l_nil ?_
  refine n_then ?_
  refine t_seq ?_
  refine t_cond rfl (fun hc0 => ?_) (fun hc0 => ?_)
  · skip
    try simp at hc0
    refine t_skip ?_
    refine n_then ?_
    refine t_seq ?_
    refine t_block ?_
    refine t_seq ?_
    refine t_region ?_
    refine l_q rfl rfl rfl ((by first | exact q_indexAddrVN rfl Try.underlying31 ti5 rfl rfl (by omega) | exact q_indexAddrN rfl Try.underlying31 ti5 rfl rfl (Sl.shape hs7 (List.length_map _)) (by omega) | exact q_indexAddrV rfl Try.underlying31 ti5 rfl rfl (by omega) | exact q_indexAddr rfl Try.underlying31 ti5 rfl rfl (Sl.shape hs7 (List.length_map _)) (by omega))) ?_
    refine l_q rfl rfl rfl ((by first | exact q_load_row rfl Try.underlying5 rfl rfl (by rfl) | exact q_load rfl Try.underlying5 rfl rfl (rd_by (i := i) hs7 (by omega)))) ?_
    refine l_q rfl rfl rfl (q_assign rfl rfl) ?_
    refine l_nil ?_
    refine n_then ?_
    refine t_region ?_
    refine l_q rfl rfl rfl (q_move rfl rfl) ?_
    refine l_q rfl rfl rfl (q_move rfl rfl) ?_
    refine l_q rfl rfl rfl (q_build (pl := [(_, _), (_, _)]) (cs := (chC ⟨nth s i 0, true⟩).toArray) rfl Try.underlying29 ti29 ⟨rfl, ⟨_, _, ti5⟩, rfl, ⟨_, _, ti4⟩, trivial⟩ rfl rfl) ?_
    refine l_e rfl rfl rfl (e_buildSlice1 rfl Try.underlying22 ti29 rfl rfl rfl (by first | exact One.cells (by assumption) | rfl) rfl) ?_
    rintro _ _ _ ⟨b16, rfl, rfl, rfl⟩
    refine l_e rfl rfl rfl (e_appendT (f := chC) (c := (⟨nth s i 0, true⟩ : Ch)) rfl Try.underlying22 ti29 rfl rfl rfl rfl rfl rfl rfl (by first | exact byC_ones _ | exact chC_ones _ | exact pcC_ones _ | simp [Value.oneCell', str, u8] | exact ones1 (by assumption)) (by simp only [maxLen]; omega) (by omega)) ?_
    rintro v17 _ _ ⟨rfl, rfl⟩
    refine l_q rfl rfl rfl (q_assign rfl rfl) ?_
    refine l_nil ?_
    refine n_block ?_
    refine n_then ?_
    refine t_region ?_
    refine l_q rfl rfl rfl (q_add64 rfl rfl rfl (by omega)) ?_
    refine l_q rfl rfl rfl (q_move rfl rfl) ?_
    refine l_nil ?_
    refine n_roundE ((i + 1, v17)) ?_ ?_ (sub_cons rfl (sub_cons rfl sub_nil)) (sub_cons rfl (sub_cons rfl (sub_cons rfl (sub_cons rfl sub_nil)))) (fun _ h => by dsimp only; rw [plainP_snoc (by omega)]; exact subC_st h)
    · try dsimp only
      omega
    · try dsimp only
      omega
  · skip
    try simp at hc0
    refine t_exit ?_
    refine n_exit_then ?_
    refine n_exit_then ?_
    refine n_exit_block ?_
    refine n_then ?_
    refine t_seq ?_
    refine t_freezeT (f := chC) (l := plainP (s.take i)) vo (fun _ => rfl) (fun J3 hJ3 hvo => ?_)
    refine t_region ?_
    refine l_q rfl rfl rfl (q_move rfl rfl) ?_
    refine l_q rfl rfl rfl (q_assign rfl rfl) ?_
    refine l_nil ?_
    refine n_then ?_
    refine t_ret ?_
    refine n_ret1 rfl rfl (fun w' hw => ?_)
    -- leaf 0
    exact ⟨_, rfl, J3, _, ⟨hJ7.trans hJ3, rfl, by rw [List.take_of_length_le (by omega)] at hvo; exact hvo⟩, hw⟩
set_option maxRecDepth 10000 in
theorem wildC_pure (c : Ch) (w : World) : Pure Try.prog 27 [.agg (chC c).toArray] w (.bool (wildC c)) := by
  refine enter Try.func27 rfl Try.ntmps27 rfl (St.start w (look w) (Le.refl _)) ?_
  refine t_seq ?_
  refine t_region ?_
  refine l_e rfl rfl rfl (e_box rfl rfl rfl) ?_
  rintro _ _ _ ⟨b1, rfl, rfl, rfl⟩
  refine l_q rfl rfl rfl (q_assign rfl rfl) ?_
  refine l_nil ?_
  refine n_then ?_
  refine t_seq ?_
  refine t_qreg ?_
  refine s_q rfl rfl rfl (q_fieldAddr rfl Try.underlying29 rfl rfl ti4 rfl rfl) ?_
  refine s_q rfl rfl rfl (q_load_row rfl Try.underlying4 rfl rfl (by rfl)) ?_
  refine s_q rfl rfl rfl (q_not rfl rfl) ?_
  refine s_q rfl rfl rfl (q_move rfl rfl) ?_
  refine s_and2 4 3 6 11 10 _ _ rfl rfl rfl rfl rfl rfl (fun h11 => by
      try simp at h11
      refine s_g rfl rfl rfl rfl rfl rfl (q_fieldAddr rfl Try.underlying29 rfl rfl ti5 rfl rfl) ?_
      refine s_g rfl rfl rfl rfl rfl rfl (q_load_row rfl Try.underlying5 rfl rfl (by rfl)) ?_
      refine s_g rfl rfl rfl rfl rfl rfl (quiet_call rfl rfl rfl Try.func28 (by kernel_rfl) rfl ((fun w _ => indexByte_pure [42, 63, 91] _ w))) ?_
      refine s_g rfl rfl rfl rfl rfl rfl (q_geq rfl rfl rfl) ?_
      exact s_val rfl
    ) (wanted_n rfl) rfl rfl rfl ?_
  refine s_q rfl rfl rfl (q_assign rfl rfl) ?_
  refine s_done ?_
  refine n_then ?_
  refine t_ret ?_
  refine n_ret1 rfl rfl (fun w' hw => ?_)
  -- leaf 0
  refine ⟨?_, hw.below⟩
  rw [indexByte_has]; rfl
set_option maxRecDepth 10000 in
theorem wIdx_pure (v : Value) (p : List Ch) (w : World) (hp : p.length ≤ 4611686018427387904) (hv : Sl (look w) 2 v (p.map chC)) : Pure Try.prog 32 [v, .func (.func 27) #[] #[]] w (.int .i64 (wIdx p 0)) := by
  refine enter Try.func32 rfl Try.ntmps32 rfl (St.start w (look w) (Le.refl _)) ?_
  refine t_seq ?_
  refine t_region ?_
  refine l_q rfl rfl rfl (q_assign rfl rfl) ?_
  refine l_nil ?_
  refine n_then ?_
  refine t_seq ?_
  refine t_seq ?_
  refine t_region ?_
  refine l_q rfl rfl rfl (q_move rfl rfl) ?_
  refine l_q rfl rfl rfl ((by first | exact q_lenV rfl Try.underlying22 rfl | exact q_len rfl Try.underlying22 rfl (Sl.lenOf hv (List.length_map _)))) ?_
  refine l_q rfl rfl rfl (q_move rfl rfl) ?_
  refine l_nil ?_
  refine n_then ?_
  refine t_block ?_
  refine t_loopE (ι := Nat) (fun zz => zz ≤ p.length ∧ wIdx p 0 = wIdx (p.drop zz) zz) (fun zz => p.length - zz) (fun zz => [(8, .int .i64 (zz : Int))]) [(0, _), (1, _), (7, _)] (fun zz => look w) (fun zz => []) 0 ?_ (sub_cons rfl sub_nil) (sub_cons rfl (sub_cons rfl (sub_cons rfl sub_nil))) (fun _ h => subC_st h) ?_
  · try dsimp only
    exact ⟨Nat.zero_le _, by simp⟩
  rintro i ⟨hi, hx⟩
  try dsimp only at *
  refine t_seq ?_
  refine t_region ?_
  refine l_q rfl rfl rfl (q_lss rfl rfl rfl) ?_
  refine l_nil ?_
  refine n_then ?_
  refine t_seq ?_
  refine t_cond rfl (fun hc0 => ?_) (fun hc0 => ?_)
  · skip
    try simp at hc0
    refine t_skip ?_
    refine n_then ?_
    refine t_seq ?_
    refine t_block ?_
    refine t_seq ?_
    refine t_region ?_
    refine l_q rfl rfl rfl (q_move rfl rfl) ?_
    refine l_q rfl rfl rfl (q_assign rfl rfl) ?_
    refine l_nil ?_
    refine n_then ?_
    refine t_seq ?_
    refine t_region ?_
    refine l_q rfl rfl rfl (q_move rfl rfl) ?_
    refine l_q rfl rfl rfl (q_move rfl rfl) ?_
    refine l_q rfl rfl rfl (q_move rfl rfl) ?_
    refine l_q rfl rfl rfl ((by first | exact q_indexAddrVN rfl Try.underlying22 ti29 rfl rfl (by omega) | exact q_indexAddrN rfl Try.underlying22 ti29 rfl rfl (Sl.shape hv (List.length_map _)) (by omega) | exact q_indexAddrV rfl Try.underlying22 ti29 rfl rfl (by omega) | exact q_indexAddr rfl Try.underlying22 ti29 rfl rfl (Sl.shape hv (List.length_map _)) (by omega))) ?_
    refine l_q rfl rfl rfl ((by first | exact q_load_rowA rfl Try.underlying29 ti29 rfl rfl rfl | exact q_load_agg rfl Try.underlying29 ti29 rfl rfl (rds_ch0 (i := i) hv (by omega)))) ?_
    refine l_q rfl rfl rfl (quiet_call rfl rfl rfl Try.func27 (by kernel_rfl) rfl ((fun w _ => wildC_pure (nth p i ch0) w))) ?_
    refine l_nil ?_
    refine n_then ?_
    refine t_cond rfl (fun hc1 => ?_) (fun hc1 => ?_)
    · skip
      refine t_seq ?_
      refine t_region ?_
      refine l_q rfl rfl rfl (q_move rfl rfl) ?_
      refine l_q rfl rfl rfl (q_assign rfl rfl) ?_
      refine l_nil ?_
      refine n_then ?_
      refine t_ret ?_
      refine n_ret_block ?_
      refine n_ret_then ?_
      refine n_ret_then ?_
      refine n_ret_block ?_
      refine n_ret_then ?_
      refine n_ret1 rfl rfl (fun w' hw => ?_)
      -- leaf 0
      refine ⟨?_, hw.below⟩
      rw [hx, drop_nth ch0 (by omega), wIdx, hc1]; rfl
    · skip
      refine t_skip ?_
      refine n_block ?_
      refine n_then ?_
      refine t_region ?_
      refine l_q rfl rfl rfl (q_add64 rfl rfl rfl (by omega)) ?_
      refine l_q rfl rfl rfl (q_move rfl rfl) ?_
      refine l_nil ?_
      refine n_roundE (i + 1) ?_ ?_ (sub_cons rfl sub_nil) (sub_cons rfl (sub_cons rfl (sub_cons rfl sub_nil))) (fun _ h => by try dsimp only; exact subC_st h)
      · try dsimp only
        refine ⟨by omega, hx.trans ?_⟩; rw [drop_nth ch0 (by omega), wIdx, hc1]; simp
      · try dsimp only
        omega
  · skip
    try simp at hc0
    refine t_exit ?_
    refine n_exit_then ?_
    refine n_exit_then ?_
    refine n_exit_block ?_
    refine n_then ?_
    refine t_seq ?_
    refine t_region ?_
    refine l_q rfl rfl rfl (q_assign rfl rfl) ?_
    refine l_nil ?_
    refine n_then ?_
    refine t_ret ?_
    refine n_ret1 rfl rfl (fun w' hw => ?_)
    -- leaf 1
    refine ⟨?_, hw.below⟩
    rw [hx, List.drop_of_length_le (by omega)]; rfl
set_option maxRecDepth 10000 in
theorem wCon_pure (v : Value) (p : List Ch) (w : World) (hp : p.length ≤ 4611686018427387904) (hv : Sl (look w) 2 v (p.map chC)) : Pure Try.prog 26 [v, .func (.func 27) #[] #[]] w (.bool (wildP p)) := by
  refine enter Try.func26 rfl Try.ntmps26 rfl (St.start w (look w) (Le.refl _)) ?_
  refine t_seq ?_
  refine t_region ?_
  refine l_q rfl rfl rfl (q_assign rfl rfl) ?_
  refine l_nil ?_
  refine n_then ?_
  refine t_seq ?_
  refine t_region ?_
  refine l_q rfl rfl rfl (q_move rfl rfl) ?_
  refine l_q rfl rfl rfl (q_move rfl rfl) ?_
  refine l_q rfl rfl rfl (quiet_call rfl rfl rfl Try.func32 (by kernel_rfl) rfl ((fun w hw => wIdx_pure v p w hp (hv.mono (Le.of_st hw))))) ?_
  refine l_q rfl rfl rfl (q_geq rfl rfl rfl) ?_
  refine l_q rfl rfl rfl (q_assign rfl rfl) ?_
  refine l_nil ?_
  refine n_then ?_
  refine t_ret ?_
  refine n_ret1 rfl rfl (fun w' hw => ?_)
  -- leaf 0
  refine ⟨?_, hw.below⟩
  rw [← wIdx_nn p 0]
set_option maxRecDepth 10000 in
theorem wild_pure (v : Value) (p : List Ch) (w : World) (hp : p.length ≤ 4611686018427387904) (hv : Sl (look w) 2 v (p.map chC)) : Pure Try.prog 15 [v] w (.bool (wildP p)) := by
  refine enter Try.func15 rfl Try.ntmps15 rfl (St.start w (look w) (Le.refl _)) ?_
  refine t_seq ?_
  refine t_region ?_
  refine l_q rfl rfl rfl (q_assign rfl rfl) ?_
  refine l_nil ?_
  refine n_then ?_
  refine t_seq ?_
  refine t_region ?_
  refine l_q rfl rfl rfl (q_move rfl rfl) ?_
  refine l_q rfl rfl rfl (quiet_call rfl rfl rfl Try.func26 (by kernel_rfl) rfl ((fun w hw => wCon_pure v p w hp (hv.mono (Le.of_st hw))))) ?_
  refine l_q rfl rfl rfl (q_assign rfl rfl) ?_
  refine l_nil ?_
  refine n_then ?_
  refine t_ret ?_
  refine n_ret1 rfl rfl (fun w' hw => ?_)
  -- leaf 0
  exact ⟨rfl, hw.below⟩
end Go.Tri
