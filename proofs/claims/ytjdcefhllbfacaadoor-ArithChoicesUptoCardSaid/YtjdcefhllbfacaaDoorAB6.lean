/-
  The statement: ArithChoices.
-/
import Derived.Test.YtjdcefhllbfacaaDoorAB4
import Derived.Test.YtjdcefhllbfacaaDoorPArN
namespace Go.Tri
open Go.Proofs Go.RowKit
theorem ch_ok {a b c : Int} (ha : (Lib.itoa a).length ≤ 1000000000) (hb : (Lib.itoa b).length ≤ 1000000000) (hc : (Lib.itoa c).length ≤ 1000000000) : VarsOk (chV a b c) := by
  refine ⟨by simp [chV], fun v hv => ?_⟩
  simp only [chV, List.mem_cons, List.not_mem_nil, or_false] at hv
  rcases hv with rfl | rfl | rfl
  · exact ha
  · exact hb
  · exact hc
set_option maxRecDepth 10000 in
theorem one_pure (c : Bool) (w : World) : Pure Tryd.prog 11 [.bool c] w (.int .i64 (trI c)) := by
  refine enter Tryd.func11 rfl Tryd.ntmps11 rfl (St.start w (look w) (Le.refl _)) ?_
  refine t_seq ?_
  refine t_region ?_
  refine l_q rfl rfl rfl (q_assign rfl rfl) ?_
  refine l_nil ?_
  refine n_then ?_
  refine t_seq ?_
  refine t_seq ?_
  refine t_region ?_
  refine l_q rfl rfl rfl (q_move rfl rfl) ?_
  refine l_nil ?_
  refine n_then ?_
  refine t_cond rfl (fun hc0 => ?_) (fun hc0 => ?_)
  · skip
    refine t_seq ?_
    refine t_region ?_
    refine l_q rfl rfl rfl (q_assign rfl rfl) ?_
    refine l_nil ?_
    refine n_then ?_
    refine t_ret ?_
    refine n_ret_then ?_
    refine n_ret1 rfl rfl (fun w' hw => ?_)
    -- leaf 0
    refine ⟨?_, hw.below⟩
    rw [hc0]; rfl
  · skip
    refine t_skip ?_
    refine n_then ?_
    refine t_seq ?_
    refine t_region ?_
    refine l_q rfl rfl rfl (q_assign rfl rfl) ?_
    refine l_nil ?_
    refine n_then ?_
    refine t_ret ?_
    refine n_ret1 rfl rfl (fun w' hw => ?_)
    -- leaf 1
    refine ⟨?_, hw.below⟩
    rw [hc0]; rfl
set_option maxRecDepth 10000 in
theorem arithChoices_pure (a b c : Int) (w : World) (ha : I64 a) (hb : I64 b) (hc : I64 c) (hG : EnvI (look w)) : Pure Tryd.prog 6 [.int .i64 a, .int .i64 b, .int .i64 c] w (.bool true) := by
  have hla := itoa_len a ha
  have hlb := itoa_len b hb
  have hlc := itoa_len c hc
  refine enter Tryd.func6 rfl Tryd.ntmps6 rfl (St.start w (look w) (Le.refl _)) ?_
  refine t_seq ?_
  refine t_region ?_
  refine l_q rfl rfl rfl (q_assign rfl rfl) ?_
  refine l_nil ?_
  refine n_then ?_
  refine t_seq ?_
  refine t_seq ?_
  refine t_region ?_
  refine l_q rfl rfl rfl (quiet_call rfl rfl rfl Tryd.func7 (by kernel_rfl) rfl ((fun w hw => awake_pure w (hG.mono hw.le)))) ?_
  refine l_q rfl rfl rfl (q_not rfl rfl) ?_
  refine l_nil ?_
  refine n_then ?_
  refine t_cond rfl (fun hc0 => ?_) (fun hc0 => ?_)
  · skip
    try simp at hc0
  · skip
    try simp at hc0
    refine t_skip ?_
    refine n_then ?_
    refine t_seq ?_
    refine t_region ?_
    refine l_q rfl rfl rfl (q_move rfl rfl) ?_
    refine l_q rfl rfl rfl (quiet_call rfl rfl rfl Tryd.func10 (by kernel_rfl) rfl ((fun w _ => dec_pure _ w (by assumption)))) ?_
    refine l_q rfl rfl rfl (q_build (pl := [(_, _), (_, _), (_, _), (_, _), (_, _)]) (cs := (vrC ⟨[97], Lib.itoa a, false, false, false⟩).toArray) rfl Tryd.underlying32 ti32 ⟨rfl, ⟨_, _, ti9⟩, rfl, ⟨_, _, ti9⟩, rfl, ⟨_, _, ti4⟩, rfl, ⟨_, _, ti4⟩, rfl, ⟨_, _, ti4⟩, trivial⟩ rfl rfl) ?_
    refine l_q rfl rfl rfl (q_move rfl rfl) ?_
    refine l_q rfl rfl rfl (quiet_call rfl rfl rfl Tryd.func10 (by kernel_rfl) rfl ((fun w _ => dec_pure _ w (by assumption)))) ?_
    refine l_q rfl rfl rfl (q_build (pl := [(_, _), (_, _), (_, _), (_, _), (_, _)]) (cs := (vrC ⟨[98], Lib.itoa b, false, false, false⟩).toArray) rfl Tryd.underlying32 ti32 ⟨rfl, ⟨_, _, ti9⟩, rfl, ⟨_, _, ti9⟩, rfl, ⟨_, _, ti4⟩, rfl, ⟨_, _, ti4⟩, rfl, ⟨_, _, ti4⟩, trivial⟩ rfl rfl) ?_
    refine l_q rfl rfl rfl (q_move rfl rfl) ?_
    refine l_q rfl rfl rfl (quiet_call rfl rfl rfl Tryd.func10 (by kernel_rfl) rfl ((fun w _ => dec_pure _ w (by assumption)))) ?_
    refine l_q rfl rfl rfl (q_build (pl := [(_, _), (_, _), (_, _), (_, _), (_, _)]) (cs := (vrC ⟨[99], Lib.itoa c, false, false, false⟩).toArray) rfl Tryd.underlying32 ti32 ⟨rfl, ⟨_, _, ti9⟩, rfl, ⟨_, _, ti9⟩, rfl, ⟨_, _, ti4⟩, rfl, ⟨_, _, ti4⟩, rfl, ⟨_, _, ti4⟩, trivial⟩ rfl rfl) ?_
    refine l_e rfl rfl rfl (e_buildSliceN (vs := [_, _, _]) (css := [vrC ⟨[97], Lib.itoa a, false, false, false⟩, vrC ⟨[98], Lib.itoa b, false, false, false⟩, vrC ⟨[99], Lib.itoa c, false, false, false⟩]) rfl Tryd.underlying22 ti32 rfl rfl rfl rfl (rfl) (by simp [vrC])) ?_
    rintro _ _ _ ⟨b33, rfl, rfl, rfl⟩
    refine l_heap (H' := tvec 32 5 vrC (.slice (some ⟨b33, 0, none⟩) 3 3) (chV a b c) :: []) ?_ (fun _ h => st_rowVec h rfl (by decide))
    refine l_freezeT (f := vrC) (l := (chV a b c)) (.slice (some ⟨b33, 0, none⟩) 3 3) (fun _ => rfl) (fun J hJ hsl => ?_)
    refine l_q rfl rfl rfl (q_assign rfl rfl) ?_
    refine l_nil ?_
    refine n_then ?_
    refine t_seq ?_
    refine t_region ?_
    refine l_q rfl rfl rfl (q_move rfl rfl) ?_
    refine l_e rfl rfl rfl (eff_call rfl rfl rfl Tryd.func8 (by kernel_rfl) rfl (fun w hw => eval_calls [97, 63, 40, 120, 61, 98, 41, 58, 40, 121, 61, 99, 41] (.slice (some ⟨b33, 0, none⟩) 3 3) (chV a b c) _ _ _ w (by decide) hsl (ch_ok (by omega) (by omega) (by omega)) (hG.mono hJ) hw)) ?_
    rintro _ J36 _ ⟨hJ36, rfl, sl36, rfl, hs36⟩
    rw [ch1 ha hb hc] at hs36 ⊢
    refine l_q rfl rfl rfl (q_move rfl rfl) ?_
    refine l_q rfl rfl rfl (q_extract rfl rfl rfl) ?_
    refine l_q rfl rfl rfl (q_extract rfl rfl rfl) ?_
    refine l_q rfl rfl rfl (q_extract rfl rfl rfl) ?_
    refine l_q rfl rfl rfl (q_assign rfl rfl) ?_
    refine l_q rfl rfl rfl (q_assign rfl rfl) ?_
    refine l_q rfl rfl rfl (q_assign rfl rfl) ?_
    refine l_nil ?_
    refine n_then ?_
    refine t_seq ?_
    refine t_region ?_
    refine l_q rfl rfl rfl (q_move rfl rfl) ?_
    refine l_q rfl rfl rfl (q_build (pl := [(_, _), (_, _)]) (cs := (asC ([121], c)).toArray) rfl Tryd.underlying37 ti37 ⟨rfl, ⟨_, _, ti9⟩, rfl, ⟨_, _, ti2⟩, trivial⟩ rfl rfl) ?_
    refine l_e rfl rfl rfl (e_alloc rfl ti37 rfl) ?_
    rintro _ _ _ ⟨b11, rfl, rfl, rfl⟩
    refine l_heap (H' := row b11 37 (asC as0) :: _) ?_ (fun _ h => h)
    refine l_e0 rfl rfl ((by first | exact e_store_all rfl ti37 rfl rfl rfl (by first | exact chC_ones _ | exact pcC_ones _ | exact asC_ones _ | simp [Value.oneCell', str, u8]) rfl | exact e_store_agg rfl ti37 rfl rfl rfl (by first | exact chC_ones _ | exact pcC_ones _ | exact asC_ones _ | simp [Value.oneCell', str, u8]) rfl)) ?_
    rintro _ _ _ ⟨rfl, rfl⟩
    refine l_heap (H' := row b11 37 (asC ([121], c)) :: _) ?_ (fun _ h => h)
    refine l_nil ?_
    refine n_then ?_
    refine t_cutE (ι := Unit) (fun _ => True) (fun _ => []) [(0, _), (1, _), (2, _), (6, _), (23, _), (7, _), (8, _), (9, _), (10, _), (11, _)] (fun _ => J36) (fun _ => (row b11 37 (asC (chW a b c)) :: [])) (sub_cons rfl (sub_cons rfl (sub_cons rfl (sub_cons rfl (sub_cons rfl (sub_cons rfl (sub_cons rfl (sub_cons rfl (sub_cons rfl (sub_cons rfl sub_nil)))))))))) ?_ ?_
    · skip
      refine t_seq ?_
      refine t_region ?_
      refine l_q rfl rfl rfl (q_move rfl rfl) ?_
      refine l_q rfl rfl rfl (q_neq rfl rfl rfl) ?_
      refine l_nil ?_
      refine n_then ?_
      refine t_cond rfl (fun hc1 => ?_) (fun hc1 => ?_)
      · skip
        refine t_region ?_
        refine l_q rfl rfl rfl (q_move rfl rfl) ?_
        refine l_q rfl rfl rfl (q_build (pl := [(_, _), (_, _)]) (cs := (asC ([120], b)).toArray) rfl Tryd.underlying37 ti37 ⟨rfl, ⟨_, _, ti9⟩, rfl, ⟨_, _, ti2⟩, trivial⟩ rfl rfl) ?_
        refine l_e0 rfl rfl ((by first | exact e_store_all rfl ti37 rfl rfl rfl (by first | exact chC_ones _ | exact pcC_ones _ | exact asC_ones _ | simp [Value.oneCell', str, u8]) rfl | exact e_store_agg rfl ti37 rfl rfl rfl (by first | exact chC_ones _ | exact pcC_ones _ | exact asC_ones _ | simp [Value.oneCell', str, u8]) rfl)) ?_
        rintro _ _ _ ⟨rfl, rfl⟩
        refine l_heap (H' := row b11 37 (asC ([120], b)) :: _) ?_ (fun _ h => h)
        refine l_nil ?_
        refine n_cut (()) ?_ (sub_nil) (sub_cons rfl (sub_cons rfl (sub_cons rfl (sub_cons rfl (sub_cons rfl (sub_cons rfl (sub_cons rfl (sub_cons rfl (sub_cons rfl (sub_cons rfl sub_nil)))))))))) (fun _ h => by unfold chW; rw [if_pos (of_decide_eq_true hc1)]; exact subC_st h)
        · trivial
      · skip
        refine t_skip ?_
        refine n_cut (()) ?_ (sub_nil) (sub_cons rfl (sub_cons rfl (sub_cons rfl (sub_cons rfl (sub_cons rfl (sub_cons rfl (sub_cons rfl (sub_cons rfl (sub_cons rfl (sub_cons rfl sub_nil)))))))))) (fun _ h => by unfold chW; rw [if_neg (of_decide_eq_false hc1)]; exact subC_st h)
        · trivial
    rintro _ _
    refine t_seq ?_
    refine t_region ?_
    refine l_q rfl rfl rfl (q_move rfl rfl) ?_
    refine l_e rfl rfl rfl (eff_call rfl rfl rfl Tryd.func8 (by kernel_rfl) rfl (fun w hw => eval_calls [97, 38, 38, 98] (.slice (some ⟨b33, 0, none⟩) 3 3) (chV a b c) _ _ _ w (by decide) (hsl.mono hJ36) (ch_ok (by omega) (by omega) (by omega)) (hG.mono (hJ.trans hJ36)) hw)) ?_
    rintro _ J48 _ ⟨hJ48, rfl, sl48, rfl, hs48⟩
    rw [ch2 ha hb] at hs48 ⊢
    refine l_q rfl rfl rfl (q_move rfl rfl) ?_
    refine l_q rfl rfl rfl (q_extract rfl rfl rfl) ?_
    refine l_q rfl rfl rfl (q_extract rfl rfl rfl) ?_
    refine l_q rfl rfl rfl (q_extract rfl rfl rfl) ?_
    refine l_q rfl rfl rfl (q_assign rfl rfl) ?_
    refine l_q rfl rfl rfl (q_assign rfl rfl) ?_
    refine l_q rfl rfl rfl (q_assign rfl rfl) ?_
    refine l_nil ?_
    refine n_then ?_
    refine t_seq ?_
    refine t_region ?_
    refine l_q rfl rfl rfl (q_move rfl rfl) ?_
    refine l_e rfl rfl rfl (eff_call rfl rfl rfl Tryd.func8 (by kernel_rfl) rfl (fun w hw => eval_calls [97, 124, 124, 98] (.slice (some ⟨b33, 0, none⟩) 3 3) (chV a b c) _ _ _ w (by decide) (hsl.mono (hJ36.trans hJ48)) (ch_ok (by omega) (by omega) (by omega)) (hG.mono ((hJ.trans hJ36).trans hJ48)) hw)) ?_
    rintro _ J54 _ ⟨hJ54, rfl, sl54, rfl, hs54⟩
    rw [ch3 ha hb] at hs54 ⊢
    refine l_q rfl rfl rfl (q_move rfl rfl) ?_
    refine l_q rfl rfl rfl (q_extract rfl rfl rfl) ?_
    refine l_q rfl rfl rfl (q_extract rfl rfl rfl) ?_
    refine l_q rfl rfl rfl (q_extract rfl rfl rfl) ?_
    refine l_q rfl rfl rfl (q_assign rfl rfl) ?_
    refine l_q rfl rfl rfl (q_assign rfl rfl) ?_
    refine l_q rfl rfl rfl (q_assign rfl rfl) ?_
    refine l_nil ?_
    refine n_then ?_
    refine t_seq ?_
    refine t_region ?_
    refine l_q rfl rfl rfl (q_move rfl rfl) ?_
    refine l_e rfl rfl rfl (eff_call rfl rfl rfl Tryd.func8 (by kernel_rfl) rfl (fun w hw => eval_calls [33, 97] (.slice (some ⟨b33, 0, none⟩) 3 3) (chV a b c) _ _ _ w (by decide) (hsl.mono ((hJ36.trans hJ48).trans hJ54)) (ch_ok (by omega) (by omega) (by omega)) (hG.mono (((hJ.trans hJ36).trans hJ48).trans hJ54)) hw)) ?_
    rintro _ J60 _ ⟨hJ60, rfl, sl60, rfl, hs60⟩
    rw [ch4 ha] at hs60 ⊢
    refine l_q rfl rfl rfl (q_move rfl rfl) ?_
    refine l_q rfl rfl rfl (q_extract rfl rfl rfl) ?_
    refine l_q rfl rfl rfl (q_extract rfl rfl rfl) ?_
    refine l_q rfl rfl rfl (q_extract rfl rfl rfl) ?_
    refine l_q rfl rfl rfl (q_assign rfl rfl) ?_
    refine l_q rfl rfl rfl (q_assign rfl rfl) ?_
    refine l_q rfl rfl rfl (q_assign rfl rfl) ?_
    refine l_nil ?_
    refine n_then ?_
    refine t_seq ?_
    refine t_region ?_
    refine l_q rfl rfl rfl (q_assign rfl rfl) ?_
    refine l_nil ?_
    refine n_then ?_
    refine t_seq ?_
    refine t_qdraw mo (by kernel_rfl) (fun _ _ _ _ _ h => h) ?_
    refine s_q rfl rfl rfl (q_move rfl rfl) ?_
    refine s_q rfl rfl rfl (q_eql rfl rfl rfl) ?_
    refine s_q rfl rfl rfl (q_move rfl rfl) ?_
    refine s_and2 4 2 66 71 70 _ _ rfl rfl rfl rfl rfl rfl (fun h71 => by
        try simp at h71
        refine s_g rfl rfl rfl rfl rfl rfl (q_move rfl rfl) ?_
        refine s_g rfl rfl rfl rfl rfl rfl (q_fieldAddr rfl Tryd.underlying37 rfl rfl ti2 rfl rfl) ?_
        refine s_g rfl rfl rfl rfl rfl rfl (q_load_row rfl Tryd.underlying2 rfl rfl (by rfl)) ?_
        refine s_g rfl rfl rfl rfl rfl rfl (q_eql rfl rfl rfl) ?_
        exact s_val rfl
      ) (wanted_n rfl) rfl rfl rfl ?_
    refine s_q rfl rfl rfl (q_move rfl rfl) ?_
    refine s_and2 3 8 72 76 75 _ _ rfl rfl rfl rfl rfl rfl (fun h76 => by
        try simp at h76
        refine s_g rfl rfl rfl rfl rfl rfl (q_move rfl rfl) ?_
        refine s_g rfl rfl rfl rfl rfl rfl ((by first | exact q_lenV rfl Tryd.underlying24 rfl | exact q_len rfl Tryd.underlying24 rfl (Sl.lenOf (n := 1) (hs36.mono ((hJ48.trans hJ54).trans hJ60)) rfl))) ?_
        refine s_g rfl rfl rfl rfl rfl rfl (q_eql rfl rfl rfl) ?_
        exact s_val rfl
      ) (wanted_n rfl) rfl rfl rfl ?_
    refine s_q rfl rfl rfl (q_move rfl rfl) ?_
    refine s_and2 5 13 77 83 82 _ _ rfl rfl rfl rfl rfl rfl (fun h83 => by
        try simp at h83
        refine s_g rfl rfl rfl rfl rfl rfl (q_move rfl rfl) ?_
        refine s_g rfl rfl rfl rfl rfl rfl ((by first | exact q_indexAddrVN rfl Tryd.underlying24 ti37 rfl rfl (by omega) | exact q_indexAddrN rfl Tryd.underlying24 ti37 rfl rfl (Sl.shape (n := 1) (hs36.mono ((hJ48.trans hJ54).trans hJ60)) rfl) (by omega) | exact q_indexAddrV rfl Tryd.underlying24 ti37 rfl rfl (by omega) | exact q_indexAddr rfl Tryd.underlying24 ti37 rfl rfl (Sl.shape (n := 1) (hs36.mono ((hJ48.trans hJ54).trans hJ60)) rfl) (by omega))) ?_
        refine s_g rfl rfl rfl rfl rfl rfl ((by first | exact q_load_rowA rfl Tryd.underlying37 ti37 rfl rfl rfl | exact q_load_agg rfl Tryd.underlying37 ti37 rfl rfl (rds_as (l := [chW a b c]) (i := 0) (hs36.mono ((hJ48.trans hJ54).trans hJ60)) (by simp)))) ?_
        refine s_g rfl rfl rfl rfl rfl rfl ((by first | exact q_load_rowA rfl Tryd.underlying37 ti37 rfl rfl rfl | exact q_load_agg rfl Tryd.underlying37 ti37 rfl rfl (rds_as (l := [chW a b c]) (i := 0) (hs36.mono ((hJ48.trans hJ54).trans hJ60)) (by simp)))) ?_
        refine s_g rfl rfl rfl rfl rfl rfl (q_eql_st rfl (by kernel_rfl) rfl rfl (eqAs _ _)) ?_
        exact s_val rfl
      ) (wanted_n rfl) rfl rfl rfl ?_
    refine s_q rfl rfl rfl (q_move rfl rfl) ?_
    refine s_and2 2 20 84 87 86 _ _ rfl rfl rfl rfl rfl rfl (fun h87 => by
        try simp at h87
        refine s_g rfl rfl rfl rfl rfl rfl (q_move rfl rfl) ?_
        refine s_g rfl rfl rfl rfl rfl rfl (q_eql rfl rfl rfl) ?_
        exact s_val rfl
      ) (wanted_n rfl) rfl rfl rfl ?_
    refine s_q rfl rfl rfl (q_move rfl rfl) ?_
    refine s_and2 2 24 88 91 90 _ _ rfl rfl rfl rfl rfl rfl (fun h91 => by
        try simp at h91
        refine s_g rfl rfl rfl rfl rfl rfl (q_move rfl rfl) ?_
        refine s_g rfl rfl rfl rfl rfl rfl (q_eql rfl rfl rfl) ?_
        exact s_val rfl
      ) (wanted_n rfl) rfl rfl rfl ?_
    refine s_q rfl rfl rfl (q_move rfl rfl) ?_
    refine s_and2 2 28 92 95 94 _ _ rfl rfl rfl rfl rfl rfl (fun h95 => by
        try simp at h95
        refine s_g rfl rfl rfl rfl rfl rfl (q_move rfl rfl) ?_
        refine s_g rfl rfl rfl rfl rfl rfl (q_eql rfl rfl rfl) ?_
        exact s_val rfl
      ) (wanted_n rfl) rfl rfl rfl ?_
    refine s_q rfl rfl rfl (q_move rfl rfl) ?_
    refine s_and2 10 32 96 107 106 _ _ rfl rfl rfl rfl rfl rfl (fun h107 => by
        try simp at h107
        refine s_g rfl rfl rfl rfl rfl rfl (q_move rfl rfl) ?_
        refine s_g rfl rfl rfl rfl rfl rfl (q_move rfl rfl) ?_
        refine s_g rfl rfl rfl rfl rfl rfl (q_move rfl rfl) ?_
        refine s_g rfl rfl rfl rfl rfl rfl (q_neq rfl rfl rfl) ?_
        refine s_g rfl rfl rfl rfl rfl rfl (q_move rfl rfl) ?_
        refine s_and2 2 37 101 104 103 _ _ rfl rfl rfl rfl rfl rfl (fun h104 => by
            try simp at h104
            refine s_g rfl rfl rfl rfl rfl rfl (q_move rfl rfl) ?_
            refine s_g rfl rfl rfl rfl rfl rfl (q_neq rfl rfl rfl) ?_
            exact s_val rfl
          ) (wanted_g rfl rfl rfl rfl) rfl rfl rfl ?_
        refine s_g rfl rfl rfl rfl rfl rfl (quiet_call rfl rfl rfl Tryd.func11 (by kernel_rfl) rfl ((fun w _ => one_pure _ w))) ?_
        refine s_g rfl rfl rfl rfl rfl rfl (q_eql rfl rfl rfl) ?_
        exact s_val rfl
      ) (wanted_n rfl) rfl rfl rfl ?_
    refine s_q rfl rfl rfl (q_move rfl rfl) ?_
    refine s_and2 10 44 108 119 118 _ _ rfl rfl rfl rfl rfl rfl (fun h119 => by
        try simp at h119
        refine s_g rfl rfl rfl rfl rfl rfl (q_move rfl rfl) ?_
        refine s_g rfl rfl rfl rfl rfl rfl (q_move rfl rfl) ?_
        refine s_g rfl rfl rfl rfl rfl rfl (q_move rfl rfl) ?_
        refine s_g rfl rfl rfl rfl rfl rfl (q_neq rfl rfl rfl) ?_
        refine s_g rfl rfl rfl rfl rfl rfl (q_move rfl rfl) ?_
        refine s_or2 2 49 113 116 115 _ _ rfl rfl rfl rfl rfl rfl (fun h116 => by
            try simp at h116
            refine s_g rfl rfl rfl rfl rfl rfl (q_move rfl rfl) ?_
            refine s_g rfl rfl rfl rfl rfl rfl (q_neq rfl rfl rfl) ?_
            exact s_val rfl
          ) (wanted_g rfl rfl rfl rfl) rfl rfl rfl ?_
        refine s_g rfl rfl rfl rfl rfl rfl (quiet_call rfl rfl rfl Tryd.func11 (by kernel_rfl) rfl ((fun w _ => one_pure _ w))) ?_
        refine s_g rfl rfl rfl rfl rfl rfl (q_eql rfl rfl rfl) ?_
        exact s_val rfl
      ) (wanted_n rfl) rfl rfl rfl ?_
    refine s_q rfl rfl rfl (q_move rfl rfl) ?_
    refine s_and2 6 56 120 127 126 _ _ rfl rfl rfl rfl rfl rfl (fun h127 => by
        try simp at h127
        refine s_g rfl rfl rfl rfl rfl rfl (q_move rfl rfl) ?_
        refine s_g rfl rfl rfl rfl rfl rfl (q_move rfl rfl) ?_
        refine s_g rfl rfl rfl rfl rfl rfl (q_move rfl rfl) ?_
        refine s_g rfl rfl rfl rfl rfl rfl (q_eql rfl rfl rfl) ?_
        refine s_g rfl rfl rfl rfl rfl rfl (quiet_call rfl rfl rfl Tryd.func11 (by kernel_rfl) rfl ((fun w _ => one_pure _ w))) ?_
        refine s_g rfl rfl rfl rfl rfl rfl (q_eql rfl rfl rfl) ?_
        exact s_val rfl
      ) (wanted_n rfl) rfl rfl rfl ?_
    refine s_q rfl rfl rfl (q_assign rfl rfl) ?_
    refine s_done ?_
    refine n_then ?_
    refine t_ret ?_
    refine n_ret1 rfl rfl (fun w' hw => ?_)
    -- leaf 0
    refine ⟨?_, (hw.less (((((hJ.trans hJ36).trans hJ48).trans hJ54).trans hJ60))).below⟩
    simp
    rfl
end Go.Tri
