/-
  A text of a proof (SH).
-/
import Derived.Test.YtigihljkacoopaaSG
namespace Go.Tri
open Go.Proofs Go.RowKit
set_option maxRecDepth 10000 in
theorem text_pure (v : Value) (l : List Ch) (w : World) (hl : l.length ≤ 1000000) (hv : Sl (look w) 2 v (l.map chC)) : Pure Try.prog 11 [v] w (str (chText l)) := by
  refine enter Try.func11 rfl Try.ntmps11 rfl (St.start w (look w) (Le.refl _)) ?_
  refine t_seq ?_
  refine t_region ?_
  refine l_q rfl rfl rfl (q_assign rfl rfl) ?_
  refine l_nil ?_
  refine n_then ?_
  refine t_seq ?_
  refine t_region ?_
  refine l_e rfl rfl rfl (e_alloc rfl ti53 rfl) ?_
  rintro _ _ _ ⟨b3, rfl, rfl, rfl⟩
  refine l_nil ?_
  refine n_then ?_
  refine t_seq ?_
  refine t_seq ?_
  refine t_region ?_
  refine l_q rfl rfl rfl (q_move rfl rfl) ?_
  refine l_q rfl rfl rfl ((by first | exact q_lenV rfl Try.underlying33 rfl | exact q_len rfl Try.underlying33 rfl (Sl.lenOf hv (List.length_map _)))) ?_
  refine l_q rfl rfl rfl (q_move rfl rfl) ?_
  refine l_nil ?_
  refine n_then ?_
  refine t_block ?_
  refine t_loopE (ι := Nat × Option Addr × Value) (fun zz => zz.1 ≤ l.length ∧ (zz.2.1 = none ∨ zz.2.1 = some ⟨b3, 0, none⟩) ∧ BufOk zz.2.2 (chText (l.take zz.1))) (fun zz => l.length - zz.1) (fun zz => [(8, .int .i64 (zz.1 : Int))]) [(0, _), (2, _), (3, _), (6, _), (7, _)] (fun zz => look w) (fun zz => [row b3 53 [.pointer zz.2.1, zz.2.2], tvec 5 1 byC zz.2.2 (chText (l.take zz.1))]) (0, none, .slice none 0 0) ?_ (sub_cons rfl sub_nil) (sub_cons rfl (sub_cons rfl (sub_cons rfl (sub_cons rfl (sub_cons rfl sub_nil))))) (fun _ h => (show St _ _ [row b3 53 [.pointer none, .slice none 0 0], tvec 5 1 byC (.slice none 0 0) []] _ from subC_st (st_nilT 5 1 byC h))) ?_
  · exact ⟨Nat.zero_le _, .inl rfl, .inl rfl⟩
  rintro ⟨k, p, vb⟩ ⟨hk, hp, hok⟩
  dsimp only at *
  refine t_seq ?_
  refine t_region ?_
  refine l_q rfl rfl rfl (q_lss rfl rfl rfl) ?_
  refine l_nil ?_
  refine n_then ?_
  refine t_seq ?_
  refine t_cond rfl (fun hc0 => ?_) (fun hc0 => ?_)
  · skip
    try simp at hc0
    refine t_skip ?_
    refine n_then ?_
    refine t_seq ?_
    refine t_block ?_
    refine t_seq ?_
    refine t_region ?_
    refine l_q rfl rfl rfl ((by first | exact q_indexAddrVN rfl Try.underlying33 ti49 rfl rfl (by omega) | exact q_indexAddrN rfl Try.underlying33 ti49 rfl rfl (Sl.shape hv (List.length_map _)) (by omega) | exact q_indexAddrV rfl Try.underlying33 ti49 rfl rfl (by omega) | exact q_indexAddr rfl Try.underlying33 ti49 rfl rfl (Sl.shape hv (List.length_map _)) (by omega))) ?_
    refine l_q rfl rfl rfl ((by first | exact q_load_rowA rfl Try.underlying49 ti49 rfl rfl rfl | exact q_load_agg rfl Try.underlying49 ti49 rfl rfl (rds_ch (i := k) hv (by omega)))) ?_
    refine l_e rfl rfl rfl (e_alloc rfl ti49 rfl) ?_
    rintro _ _ _ ⟨b5, rfl, rfl, rfl⟩
    refine l_e0 rfl rfl ((by first | exact e_store_all rfl ti49 rfl rfl rfl (by first | exact chC_ones _ | exact pcC_ones _ | simp [Value.oneCell', str, u8]) rfl | exact e_store_agg rfl ti49 rfl rfl rfl (by first | exact chC_ones _ | exact pcC_ones _ | simp [Value.oneCell', str, u8]) rfl)) ?_
    rintro _ _ _ ⟨rfl, rfl⟩
    refine l_nil ?_
    refine n_then ?_
    refine t_region ?_
    refine l_q rfl rfl rfl (q_fieldAddr rfl Try.underlying49 rfl rfl ti5 rfl rfl) ?_
    refine l_q rfl rfl rfl (q_load_row rfl Try.underlying5 rfl rfl (by rfl)) ?_
    refine l_e rfl rfl rfl (eff_call rfl rfl rfl Try.func17 (by kernel_rfl) rfl (fun w hw => writeByte_calls b3 p vb (chText (l.take k)) (nth l k ⟨0, false⟩).b _ _ _ w hp (by simp [chText]; omega) (picks_st2 (row b3 53 [.pointer p, vb]) (tvec 5 1 byC vb (chText (l.take k))) hw))) ?_
    rintro _ _ _ ⟨rfl, rfl, vb2, rfl⟩
    refine l_nil ?_
    refine n_block ?_
    refine n_then ?_
    refine t_region ?_
    refine l_q rfl rfl rfl (q_add64 rfl rfl rfl (by omega)) ?_
    refine l_q rfl rfl rfl (q_move rfl rfl) ?_
    refine l_nil ?_
    refine n_roundE ((k + 1, some ⟨b3, 0, none⟩, vb2)) ?_ ?_ (sub_cons rfl sub_nil) (sub_cons rfl (sub_cons rfl (sub_cons rfl (sub_cons rfl (sub_cons rfl sub_nil))))) (fun _ h => by dsimp only; rw [chText_snoc l k (by omega)]; exact subC_st h)
    · exact ⟨(show k + 1 ≤ _ by omega), .inr rfl, .inr (by show chText (l.take (k + 1)) ≠ []; rw [chText_snoc l k (by omega)]; simp)⟩
    · show l.length - (k + 1) < l.length - k; omega
  · skip
    try simp at hc0
    refine t_exit ?_
    refine n_exit_then ?_
    refine n_exit_then ?_
    refine n_exit_block ?_
    refine n_then ?_
    refine t_seq ?_
    refine t_region ?_
    refine l_e rfl rfl rfl (eff_call rfl rfl rfl Try.func18 (by kernel_rfl) rfl (fun w hw => builderString_calls b3 (.pointer p) vb (chText (l.take k)) _ _ _ w hok (by simp [chText]; omega) (picks_st2 (row b3 53 [.pointer p, vb]) (tvec 5 1 byC vb (chText (l.take k))) hw))) ?_
    rintro _ _ _ ⟨rfl, rfl, rfl⟩
    refine l_q rfl rfl rfl (q_assign rfl rfl) ?_
    refine l_nil ?_
    refine n_then ?_
    refine t_ret ?_
    refine n_ret1 rfl rfl (fun w' hw => ?_)
    -- leaf 0
    refine ⟨?_, hw.below⟩
    rw [List.take_of_length_le (by omega)]
end Go.Tri
