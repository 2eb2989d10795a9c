/-
  A field as a text.
-/
import Derived.Test.YtbogmbdfjgnfaaaGreatDoorED1
namespace Go.Tri
open Go.Proofs Go.RowKit
set_option maxRecDepth 10000 in
theorem writeByte_calls (b : Nat) (p : Option Addr) (vb : Value) (l : List UInt8) (c : UInt8) (I : Look) (F : List HA) (w0 w : World) (hp : p = none ∨ p = some ⟨b, 0, none⟩) (hl : l.length ≤ 140737488355000) (hw0 : St w0 I (row b 106 [.pointer p, vb] :: tvec 5 1 byC vb l :: F) w) : Calls Tryz.prog 42 [.pointer (some ⟨b, 0, none⟩), u8 c].toArray w (fun e w' => ∃ v, e = .returned v ∧ ∃ I' H', (v = .nilIface ∧ I = I' ∧ ∃ vb', H' = row b 106 [.pointer (some ⟨b, 0, none⟩), vb'] :: tvec 5 1 byC vb' (l ++ [c]) :: F) ∧ St w I' H' w') := by
  refine enter Tryz.func42 rfl Tryz.ntmps42 rfl (hw0.self) ?_
  refine t_seq ?_
  refine t_region ?_
  refine l_q rfl rfl rfl (q_assign rfl rfl) ?_
  refine l_nil ?_
  refine n_then ?_
  refine t_seq ?_
  refine t_region ?_
  refine l_q rfl rfl rfl (q_move rfl rfl) ?_
  refine l_e rfl rfl rfl (eff_call rfl rfl rfl Tryz.func69 (by kernel_rfl) rfl (fun w hw => copyCheck_calls b p vb _ _ _ w hp (picks_st1 (row b 106 [.pointer p, vb]) hw))) ?_
  rintro _ _ _ ⟨rfl, rfl⟩
  refine l_nil ?_
  refine n_then ?_
  refine t_seq ?_
  refine t_region ?_
  refine l_q rfl rfl rfl (q_move rfl rfl) ?_
  refine l_q rfl rfl rfl (q_move rfl rfl) ?_
  refine l_q rfl rfl rfl (q_nilCheck rfl rfl) ?_
  refine l_q rfl rfl rfl (q_fieldAddr rfl Tryz.underlying106 rfl rfl ti104 rfl rfl) ?_
  refine l_q rfl rfl rfl (q_load_row rfl Tryz.underlying104 rfl rfl (by rfl)) ?_
  refine l_q rfl rfl rfl (q_move rfl rfl) ?_
  refine l_e rfl rfl rfl (e_buildSlice1 rfl Tryz.underlying104 ti5 rfl rfl rfl (by first | exact One.cells (by assumption) | exact One.cells hone | rfl) rfl) ?_
  rintro _ _ _ ⟨b13, rfl, rfl, rfl⟩
  refine l_e rfl rfl rfl (e_appendT (f := byC) (c := c) rfl Tryz.underlying104 ti5 rfl rfl rfl rfl rfl rfl rfl (by first | exact byC_ones _ | exact chC_ones _ | exact pcC_ones _ | simp [Value.oneCell', str, u8] | exact ones1 (by assumption)) (by simp only [maxLen]; omega) (by omega)) ?_
  rintro v14 _ _ ⟨rfl, rfl⟩
  refine l_one v14 (fun hone => ?_)
  refine l_q rfl rfl rfl (q_nilCheck rfl rfl) ?_
  refine l_q rfl rfl rfl (q_fieldAddr rfl Tryz.underlying106 rfl rfl ti104 rfl rfl) ?_
  refine l_e0 rfl rfl (e_storeS rfl ti104 rfl rfl (by first | exact ⟨rfl, rfl⟩ | assumption | exact hone) rfl (by first | (simp only [List.set_cons_succ, List.set_cons_zero]; rfl) | rfl)) ?_
  rintro _ _ _ ⟨rfl, rfl⟩
  refine l_nil ?_
  refine n_then ?_
  refine t_seq ?_
  refine t_region ?_
  refine l_q rfl rfl rfl (q_assign rfl rfl) ?_
  refine l_nil ?_
  refine n_then ?_
  refine t_ret ?_
  refine n_ret1 rfl rfl (fun w' hw => ?_)
  -- leaf 0
  have hw2 : St w I (row b 106 [.pointer (some ⟨b, 0, none⟩), v14] :: tvec 5 1 byC v14 (l ++ [c]) :: row b13 5 [u8 c] :: F) w' := hw
  exact ⟨_, rfl, I, _, ⟨rfl, rfl, v14, rfl⟩, subC_st hw2⟩
set_option maxRecDepth 10000 in
theorem text_pure (v : Value) (l : List Ch) (w : World) (hl : l.length ≤ 1000000) (hv : Sl (look w) 2 v (l.map chC)) : Pure Tryz.prog 34 [v] w (str (chText l)) := by
  refine enter Tryz.func34 rfl Tryz.ntmps34 rfl (St.start w (look w) (Le.refl _)) ?_
  refine t_seq ?_
  refine t_region ?_
  refine l_q rfl rfl rfl (q_assign rfl rfl) ?_
  refine l_nil ?_
  refine n_then ?_
  refine t_seq ?_
  refine t_region ?_
  refine l_e rfl rfl rfl (e_alloc rfl ti106 rfl) ?_
  rintro _ _ _ ⟨b3, rfl, rfl, rfl⟩
  refine l_nil ?_
  refine n_then ?_
  refine t_seq ?_
  refine t_seq ?_
  refine t_region ?_
  refine l_q rfl rfl rfl (q_move rfl rfl) ?_
  refine l_q rfl rfl rfl ((by first | exact q_lenV rfl Tryz.underlying47 rfl | exact q_len rfl Tryz.underlying47 rfl (Sl.lenOf hv (List.length_map _)))) ?_
  refine l_q rfl rfl rfl (q_move rfl rfl) ?_
  refine l_nil ?_
  refine n_then ?_
  refine t_block ?_
  refine t_loopE (ι := Nat × Option Addr × Value) (fun zz => zz.1 ≤ l.length ∧ (zz.2.1 = none ∨ zz.2.1 = some ⟨b3, 0, none⟩) ∧ BufOk zz.2.2 (chText (l.take zz.1))) (fun zz => l.length - zz.1) (fun zz => [(8, .int .i64 (zz.1 : Int))]) [(0, _), (2, _), (3, _), (6, _), (7, _)] (fun zz => look w) (fun zz => [row b3 106 [.pointer zz.2.1, zz.2.2], tvec 5 1 byC zz.2.2 (chText (l.take zz.1))]) (0, none, .slice none 0 0) ?_ (sub_cons rfl sub_nil) (sub_cons rfl (sub_cons rfl (sub_cons rfl (sub_cons rfl (sub_cons rfl sub_nil))))) (fun _ h => (show St _ _ [row b3 106 [.pointer none, .slice none 0 0], tvec 5 1 byC (.slice none 0 0) []] _ from subC_st (st_nilT 5 1 byC h))) ?_
  · try dsimp only
    exact ⟨Nat.zero_le _, .inl rfl, .inl rfl⟩
  rintro ⟨k, p, vb⟩ ⟨hk, hp, hok⟩
  try dsimp only at *
  refine t_seq ?_
  refine t_region ?_
  refine l_q rfl rfl rfl (q_lss rfl rfl rfl) ?_
  refine l_nil ?_
  refine n_then ?_
  refine t_seq ?_
  refine t_cond rfl (fun hc0 => ?_) (fun hc0 => ?_)
  · skip
    try simp at hc0
    refine t_skip ?_
    refine n_then ?_
    refine t_seq ?_
    refine t_block ?_
    refine t_seq ?_
    refine t_region ?_
    refine l_q rfl rfl rfl ((by first | exact q_indexAddrVN rfl Tryz.underlying47 ti88 rfl rfl (by omega) | exact q_indexAddrN rfl Tryz.underlying47 ti88 rfl rfl (Sl.shape hv (List.length_map _)) (by omega) | exact q_indexAddrV rfl Tryz.underlying47 ti88 rfl rfl (by omega) | exact q_indexAddr rfl Tryz.underlying47 ti88 rfl rfl (Sl.shape hv (List.length_map _)) (by omega))) ?_
    refine l_q rfl rfl rfl ((by first | exact q_load_rowA rfl Tryz.underlying88 ti88 rfl rfl rfl | exact q_load_agg rfl Tryz.underlying88 ti88 rfl rfl (rds_ch (i := k) hv (by omega)))) ?_
    refine l_e rfl rfl rfl (e_alloc rfl ti88 rfl) ?_
    rintro _ _ _ ⟨b5, rfl, rfl, rfl⟩
    refine l_e0 rfl rfl ((by first | exact e_store_all rfl ti88 rfl rfl rfl (by first | exact chC_ones _ | exact pcC_ones _ | simp [Value.oneCell', str, u8]) rfl | exact e_store_agg rfl ti88 rfl rfl rfl (by first | exact chC_ones _ | exact pcC_ones _ | simp [Value.oneCell', str, u8]) rfl)) ?_
    rintro _ _ _ ⟨rfl, rfl⟩
    refine l_nil ?_
    refine n_then ?_
    refine t_region ?_
    refine l_q rfl rfl rfl (q_fieldAddr rfl Tryz.underlying88 rfl rfl ti5 rfl rfl) ?_
    refine l_q rfl rfl rfl (q_load_row rfl Tryz.underlying5 rfl rfl (by rfl)) ?_
    refine l_e rfl rfl rfl (eff_call rfl rfl rfl Tryz.func42 (by kernel_rfl) rfl (fun w hw => writeByte_calls b3 p vb (chText (l.take k)) (nth l k ⟨0, false⟩).b _ _ _ w hp (by simp [chText]; omega) (picks_st2 (row b3 106 [.pointer p, vb]) (tvec 5 1 byC vb (chText (l.take k))) hw))) ?_
    rintro _ _ _ ⟨rfl, rfl, vb2, rfl⟩
    refine l_nil ?_
    refine n_block ?_
    refine n_then ?_
    refine t_region ?_
    refine l_q rfl rfl rfl (q_add64 rfl rfl rfl (by omega)) ?_
    refine l_q rfl rfl rfl (q_move rfl rfl) ?_
    refine l_nil ?_
    refine n_roundE ((k + 1, some ⟨b3, 0, none⟩, vb2)) ?_ ?_ (sub_cons rfl sub_nil) (sub_cons rfl (sub_cons rfl (sub_cons rfl (sub_cons rfl (sub_cons rfl sub_nil))))) (fun _ h => by dsimp only; rw [chText_snoc l k (by omega)]; exact subC_st h)
    · try dsimp only
      exact ⟨(show k + 1 ≤ _ by omega), .inr rfl, .inr (by show chText (l.take (k + 1)) ≠ []; rw [chText_snoc l k (by omega)]; simp)⟩
    · try dsimp only
      show l.length - (k + 1) < l.length - k; omega
  · skip
    try simp at hc0
    refine t_exit ?_
    refine n_exit_then ?_
    refine n_exit_then ?_
    refine n_exit_block ?_
    refine n_then ?_
    refine t_seq ?_
    refine t_region ?_
    refine l_e rfl rfl rfl (eff_call rfl rfl rfl Tryz.func44 (by kernel_rfl) rfl (fun w hw => builderString_calls b3 (.pointer p) vb (chText (l.take k)) _ _ _ w hok (by simp [chText]; omega) (picks_st2 (row b3 106 [.pointer p, vb]) (tvec 5 1 byC vb (chText (l.take k))) hw))) ?_
    rintro _ _ _ ⟨rfl, rfl, rfl⟩
    refine l_q rfl rfl rfl (q_assign rfl rfl) ?_
    refine l_nil ?_
    refine n_then ?_
    refine t_ret ?_
    refine n_ret1 rfl rfl (fun w' hw => ?_)
    -- leaf 0
    refine ⟨?_, hw.below⟩
    rw [List.take_of_length_le (by omega)]
end Go.Tri
