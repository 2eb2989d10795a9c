/-
  The statement: ArithNames.
-/
import Derived.Test.YtjdcefhllbfacaaDoorAB4
import Derived.Test.YtjdcefhllbfacaaDoorPArN
namespace Go.Tri
open Go.Proofs Go.RowKit
set_option maxRecDepth 10000 in
theorem arithNames_pure (a b : Int) (w : World) (ha : I64 a) (hb : I64 b) (hG : EnvI (look w)) : Pure Tryd.prog 5 [.int .i64 a, .int .i64 b] w (.bool true) := by
  have hla := itoa_len a ha
  have hlb := itoa_len b hb
  refine enter Tryd.func5 rfl Tryd.ntmps5 rfl (St.start w (look w) (Le.refl _)) ?_
  refine t_seq ?_
  refine t_region ?_
  refine l_q rfl rfl rfl (q_assign rfl rfl) ?_
  refine l_nil ?_
  refine n_then ?_
  refine t_seq ?_
  refine t_seq ?_
  refine t_region ?_
  refine l_q rfl rfl rfl (quiet_call rfl rfl rfl Tryd.func7 (by kernel_rfl) rfl ((fun w hw => awake_pure w (hG.mono hw.le)))) ?_
  refine l_q rfl rfl rfl (q_not rfl rfl) ?_
  refine l_nil ?_
  refine n_then ?_
  refine t_cond rfl (fun hc0 => ?_) (fun hc0 => ?_)
  · skip
    try simp at hc0
  · skip
    try simp at hc0
    refine t_skip ?_
    refine n_then ?_
    refine t_seq ?_
    refine t_region ?_
    refine l_q rfl rfl rfl (q_move rfl rfl) ?_
    refine l_q rfl rfl rfl (quiet_call rfl rfl rfl Tryd.func10 (by kernel_rfl) rfl ((fun w _ => dec_pure _ w (by assumption)))) ?_
    refine l_q rfl rfl rfl (q_build (pl := [(_, _), (_, _), (_, _), (_, _), (_, _)]) (cs := (vrC ⟨[97], Lib.itoa a, false, false, false⟩).toArray) rfl Tryd.underlying32 ti32 ⟨rfl, ⟨_, _, ti9⟩, rfl, ⟨_, _, ti9⟩, rfl, ⟨_, _, ti4⟩, rfl, ⟨_, _, ti4⟩, rfl, ⟨_, _, ti4⟩, trivial⟩ rfl rfl) ?_
    refine l_q rfl rfl rfl (q_move rfl rfl) ?_
    refine l_q rfl rfl rfl (quiet_call rfl rfl rfl Tryd.func10 (by kernel_rfl) rfl ((fun w _ => dec_pure _ w (by assumption)))) ?_
    refine l_q rfl rfl rfl (q_cat rfl rfl rfl (by first | omega | (simp only [List.length_append, List.length_cons, List.length_nil, List.length_take, List.length_drop]; omega))) ?_
    refine l_q rfl rfl rfl (q_cat rfl rfl rfl (by first | omega | (simp only [List.length_append, List.length_cons, List.length_nil, List.length_take, List.length_drop]; omega))) ?_
    refine l_q rfl rfl rfl (q_build (pl := [(_, _), (_, _), (_, _), (_, _), (_, _)]) (cs := (vrC ⟨[98], [32] ++ Lib.itoa b ++ [9], false, false, false⟩).toArray) rfl Tryd.underlying32 ti32 ⟨rfl, ⟨_, _, ti9⟩, rfl, ⟨_, _, ti9⟩, rfl, ⟨_, _, ti4⟩, rfl, ⟨_, _, ti4⟩, rfl, ⟨_, _, ti4⟩, trivial⟩ rfl rfl) ?_
    refine l_e rfl rfl rfl (e_buildSliceN (vs := [_, _]) (css := [vrC ⟨[97], Lib.itoa a, false, false, false⟩, vrC ⟨[98], [32] ++ Lib.itoa b ++ [9], false, false, false⟩]) rfl Tryd.underlying22 ti32 rfl rfl rfl rfl (rfl) (by simp [vrC])) ?_
    rintro _ _ _ ⟨b25, rfl, rfl, rfl⟩
    refine l_heap (H' := tvec 32 5 vrC (.slice (some ⟨b25, 0, none⟩) 2 2) (nmV a b) :: []) ?_ (fun _ h => st_rowVec h rfl (by decide))
    refine l_freezeT (f := vrC) (l := (nmV a b)) (.slice (some ⟨b25, 0, none⟩) 2 2) (fun _ => rfl) (fun J hJ hsl => ?_)
    refine l_q rfl rfl rfl (q_assign rfl rfl) ?_
    refine l_nil ?_
    refine n_then ?_
    refine t_seq ?_
    refine t_region ?_
    refine l_q rfl rfl rfl (q_move rfl rfl) ?_
    refine l_e rfl rfl rfl (eff_call rfl rfl rfl Tryd.func8 (by kernel_rfl) rfl (fun w hw => eval_calls [97] (.slice (some ⟨b25, 0, none⟩) 2 2) (nmV a b) _ _ _ w (by decide) hsl (vars_ok2 (by show (Lib.itoa a).length ≤ _; omega) (by show ([32] ++ Lib.itoa b ++ [9]).length ≤ _; simp only [List.length_append, List.length_cons, List.length_nil]; omega)) (hG.mono hJ) hw)) ?_
    rintro _ J28 _ ⟨hJ28, rfl, sl28, rfl, hs28⟩
    rw [nm1 ha] at hs28 ⊢
    refine l_q rfl rfl rfl (q_move rfl rfl) ?_
    refine l_q rfl rfl rfl (q_extract rfl rfl rfl) ?_
    refine l_q rfl rfl rfl (q_extract rfl rfl rfl) ?_
    refine l_q rfl rfl rfl (q_extract rfl rfl rfl) ?_
    refine l_q rfl rfl rfl (q_assign rfl rfl) ?_
    refine l_q rfl rfl rfl (q_assign rfl rfl) ?_
    refine l_q rfl rfl rfl (q_assign rfl rfl) ?_
    refine l_nil ?_
    refine n_then ?_
    refine t_seq ?_
    refine t_region ?_
    refine l_q rfl rfl rfl (q_move rfl rfl) ?_
    refine l_e rfl rfl rfl (eff_call rfl rfl rfl Tryd.func8 (by kernel_rfl) rfl (fun w hw => eval_calls [40, 97, 61, 98, 41, 43, 40, 98, 61, 97, 41] (.slice (some ⟨b25, 0, none⟩) 2 2) (nmV a b) _ _ _ w (by decide) (hsl.mono hJ28) (vars_ok2 (by show (Lib.itoa a).length ≤ _; omega) (by show ([32] ++ Lib.itoa b ++ [9]).length ≤ _; simp only [List.length_append, List.length_cons, List.length_nil]; omega)) (hG.mono (hJ.trans hJ28)) hw)) ?_
    rintro _ J34 _ ⟨hJ34, rfl, sl34, rfl, hs34⟩
    rw [nm2 hb] at hs34 ⊢
    refine l_q rfl rfl rfl (q_move rfl rfl) ?_
    refine l_q rfl rfl rfl (q_extract rfl rfl rfl) ?_
    refine l_q rfl rfl rfl (q_extract rfl rfl rfl) ?_
    refine l_q rfl rfl rfl (q_extract rfl rfl rfl) ?_
    refine l_q rfl rfl rfl (q_assign rfl rfl) ?_
    refine l_q rfl rfl rfl (q_assign rfl rfl) ?_
    refine l_q rfl rfl rfl (q_assign rfl rfl) ?_
    refine l_nil ?_
    refine n_then ?_
    refine t_seq ?_
    refine t_region ?_
    refine l_q rfl rfl rfl (q_move rfl rfl) ?_
    refine l_e rfl rfl rfl (eff_call rfl rfl rfl Tryd.func8 (by kernel_rfl) rfl (fun w hw => eval_calls [97, 45, 61, 98] (.slice (some ⟨b25, 0, none⟩) 2 2) (nmV a b) _ _ _ w (by decide) (hsl.mono (hJ28.trans hJ34)) (vars_ok2 (by show (Lib.itoa a).length ≤ _; omega) (by show ([32] ++ Lib.itoa b ++ [9]).length ≤ _; simp only [List.length_append, List.length_cons, List.length_nil]; omega)) (hG.mono ((hJ.trans hJ28).trans hJ34)) hw)) ?_
    rintro _ J40 _ ⟨hJ40, rfl, sl40, rfl, hs40⟩
    rw [nm3 ha hb] at hs40 ⊢
    refine l_q rfl rfl rfl (q_move rfl rfl) ?_
    refine l_q rfl rfl rfl (q_extract rfl rfl rfl) ?_
    refine l_q rfl rfl rfl (q_extract rfl rfl rfl) ?_
    refine l_q rfl rfl rfl (q_extract rfl rfl rfl) ?_
    refine l_q rfl rfl rfl (q_assign rfl rfl) ?_
    refine l_q rfl rfl rfl (q_assign rfl rfl) ?_
    refine l_q rfl rfl rfl (q_assign rfl rfl) ?_
    refine l_nil ?_
    refine n_then ?_
    refine t_seq ?_
    refine t_qreg ?_
    refine s_q rfl rfl rfl (q_move rfl rfl) ?_
    refine s_q rfl rfl rfl (q_eql rfl rfl rfl) ?_
    refine s_q rfl rfl rfl (q_move rfl rfl) ?_
    refine s_and2 3 2 46 50 49 _ _ rfl rfl rfl rfl rfl rfl (fun h50 => by
        try simp at h50
        refine s_g rfl rfl rfl rfl rfl rfl (q_move rfl rfl) ?_
        refine s_g rfl rfl rfl rfl rfl rfl (q_move rfl rfl) ?_
        refine s_g rfl rfl rfl rfl rfl rfl (q_eql rfl rfl rfl) ?_
        exact s_val rfl
      ) (wanted_n rfl) rfl rfl rfl ?_
    refine s_q rfl rfl rfl (q_move rfl rfl) ?_
    refine s_and2 3 7 51 55 54 _ _ rfl rfl rfl rfl rfl rfl (fun h55 => by
        try simp at h55
        refine s_g rfl rfl rfl rfl rfl rfl (q_move rfl rfl) ?_
        refine s_g rfl rfl rfl rfl rfl rfl ((by first | exact q_lenV rfl Tryd.underlying24 rfl | exact q_len rfl Tryd.underlying24 rfl (Sl.lenOf (n := 0) (hs28.mono (hJ34.trans hJ40)) rfl) | exact q_len rfl Tryd.underlying24 rfl (Sl.lenOf (n := 2) (hs34.mono hJ40) rfl) | exact q_len rfl Tryd.underlying24 rfl (Sl.lenOf (n := 1) hs40 rfl))) ?_
        refine s_g rfl rfl rfl rfl rfl rfl (q_eql rfl rfl rfl) ?_
        exact s_val rfl
      ) (wanted_n rfl) rfl rfl rfl ?_
    refine s_q rfl rfl rfl (q_move rfl rfl) ?_
    refine s_and2 2 12 56 59 58 _ _ rfl rfl rfl rfl rfl rfl (fun h59 => by
        try simp at h59
        refine s_g rfl rfl rfl rfl rfl rfl (q_move rfl rfl) ?_
        refine s_g rfl rfl rfl rfl rfl rfl (q_eql rfl rfl rfl) ?_
        exact s_val rfl
      ) (wanted_n rfl) rfl rfl rfl ?_
    refine s_q rfl rfl rfl (q_move rfl rfl) ?_
    refine s_and2 5 16 60 66 65 _ _ rfl rfl rfl rfl rfl rfl (fun h66 => by
        try simp at h66
        refine s_g rfl rfl rfl rfl rfl rfl (q_move rfl rfl) ?_
        refine s_g rfl rfl rfl rfl rfl rfl (q_move rfl rfl) ?_
        refine s_g rfl rfl rfl rfl rfl rfl (q_move rfl rfl) ?_
        refine s_g rfl rfl rfl rfl rfl rfl (q_add rfl rfl rfl) ?_
        refine s_g rfl rfl rfl rfl rfl rfl (q_eql rfl rfl rfl) ?_
        exact s_val rfl
      ) (wanted_n rfl) rfl rfl rfl ?_
    refine s_q rfl rfl rfl (q_move rfl rfl) ?_
    refine s_and2 3 23 67 71 70 _ _ rfl rfl rfl rfl rfl rfl (fun h71 => by
        try simp at h71
        refine s_g rfl rfl rfl rfl rfl rfl (q_move rfl rfl) ?_
        refine s_g rfl rfl rfl rfl rfl rfl ((by first | exact q_lenV rfl Tryd.underlying24 rfl | exact q_len rfl Tryd.underlying24 rfl (Sl.lenOf (n := 0) (hs28.mono (hJ34.trans hJ40)) rfl) | exact q_len rfl Tryd.underlying24 rfl (Sl.lenOf (n := 2) (hs34.mono hJ40) rfl) | exact q_len rfl Tryd.underlying24 rfl (Sl.lenOf (n := 1) hs40 rfl))) ?_
        refine s_g rfl rfl rfl rfl rfl rfl (q_eql rfl rfl rfl) ?_
        exact s_val rfl
      ) (wanted_n rfl) rfl rfl rfl ?_
    refine s_q rfl rfl rfl (q_move rfl rfl) ?_
    refine s_and2 6 28 72 79 78 _ _ rfl rfl rfl rfl rfl rfl (fun h79 => by
        try simp at h79
        refine s_g rfl rfl rfl rfl rfl rfl (q_move rfl rfl) ?_
        refine s_g rfl rfl rfl rfl rfl rfl ((by first | exact q_indexAddrVN rfl Tryd.underlying24 ti37 rfl rfl (by omega) | exact q_indexAddrN rfl Tryd.underlying24 ti37 rfl rfl (Sl.shape (n := 2) (hs34.mono hJ40) rfl) (by omega) | exact q_indexAddrN rfl Tryd.underlying24 ti37 rfl rfl (Sl.shape (n := 1) hs40 rfl) (by omega) | exact q_indexAddrV rfl Tryd.underlying24 ti37 rfl rfl (by omega) | exact q_indexAddr rfl Tryd.underlying24 ti37 rfl rfl (Sl.shape (n := 2) (hs34.mono hJ40) rfl) (by omega) | exact q_indexAddr rfl Tryd.underlying24 ti37 rfl rfl (Sl.shape (n := 1) hs40 rfl) (by omega))) ?_
        refine s_g rfl rfl rfl rfl rfl rfl ((by first | exact q_load_rowA rfl Tryd.underlying37 ti37 rfl rfl rfl | exact q_load_agg rfl Tryd.underlying37 ti37 rfl rfl (rds_as (l := [([97], b), ([98], b)]) (i := 0) (hs34.mono hJ40) (by simp)) | exact q_load_agg rfl Tryd.underlying37 ti37 rfl rfl (rds_as (l := [([97], b), ([98], b)]) (i := 1) (hs34.mono hJ40) (by simp)) | exact q_load_agg rfl Tryd.underlying37 ti37 rfl rfl (rds_as (l := [([97], w64 (a - b))]) (i := 0) hs40 (by simp)))) ?_
        refine s_g rfl rfl rfl rfl rfl rfl (q_move rfl rfl) ?_
        refine s_g rfl rfl rfl rfl rfl rfl (q_build (pl := [(_, _), (_, _)]) (cs := (asC ([97], b)).toArray) rfl Tryd.underlying37 ti37 ⟨rfl, ⟨_, _, ti9⟩, rfl, ⟨_, _, ti2⟩, trivial⟩ rfl rfl) ?_
        refine s_g rfl rfl rfl rfl rfl rfl (q_eql_st rfl (by kernel_rfl) rfl rfl (eqAs _ _)) ?_
        exact s_val rfl
      ) (wanted_n rfl) rfl rfl rfl ?_
    refine s_q rfl rfl rfl (q_move rfl rfl) ?_
    refine s_and2 6 36 80 87 86 _ _ rfl rfl rfl rfl rfl rfl (fun h87 => by
        try simp at h87
        refine s_g rfl rfl rfl rfl rfl rfl (q_move rfl rfl) ?_
        refine s_g rfl rfl rfl rfl rfl rfl ((by first | exact q_indexAddrVN rfl Tryd.underlying24 ti37 rfl rfl (by omega) | exact q_indexAddrN rfl Tryd.underlying24 ti37 rfl rfl (Sl.shape (n := 2) (hs34.mono hJ40) rfl) (by omega) | exact q_indexAddrN rfl Tryd.underlying24 ti37 rfl rfl (Sl.shape (n := 1) hs40 rfl) (by omega) | exact q_indexAddrV rfl Tryd.underlying24 ti37 rfl rfl (by omega) | exact q_indexAddr rfl Tryd.underlying24 ti37 rfl rfl (Sl.shape (n := 2) (hs34.mono hJ40) rfl) (by omega) | exact q_indexAddr rfl Tryd.underlying24 ti37 rfl rfl (Sl.shape (n := 1) hs40 rfl) (by omega))) ?_
        refine s_g rfl rfl rfl rfl rfl rfl ((by first | exact q_load_rowA rfl Tryd.underlying37 ti37 rfl rfl rfl | exact q_load_agg rfl Tryd.underlying37 ti37 rfl rfl (rds_as (l := [([97], b), ([98], b)]) (i := 0) (hs34.mono hJ40) (by simp)) | exact q_load_agg rfl Tryd.underlying37 ti37 rfl rfl (rds_as (l := [([97], b), ([98], b)]) (i := 1) (hs34.mono hJ40) (by simp)) | exact q_load_agg rfl Tryd.underlying37 ti37 rfl rfl (rds_as (l := [([97], w64 (a - b))]) (i := 0) hs40 (by simp)))) ?_
        refine s_g rfl rfl rfl rfl rfl rfl (q_move rfl rfl) ?_
        refine s_g rfl rfl rfl rfl rfl rfl (q_build (pl := [(_, _), (_, _)]) (cs := (asC ([98], b)).toArray) rfl Tryd.underlying37 ti37 ⟨rfl, ⟨_, _, ti9⟩, rfl, ⟨_, _, ti2⟩, trivial⟩ rfl rfl) ?_
        refine s_g rfl rfl rfl rfl rfl rfl (q_eql_st rfl (by kernel_rfl) rfl rfl (eqAs _ _)) ?_
        exact s_val rfl
      ) (wanted_n rfl) rfl rfl rfl ?_
    refine s_q rfl rfl rfl (q_move rfl rfl) ?_
    refine s_and2 2 44 88 91 90 _ _ rfl rfl rfl rfl rfl rfl (fun h91 => by
        try simp at h91
        refine s_g rfl rfl rfl rfl rfl rfl (q_move rfl rfl) ?_
        refine s_g rfl rfl rfl rfl rfl rfl (q_eql rfl rfl rfl) ?_
        exact s_val rfl
      ) (wanted_n rfl) rfl rfl rfl ?_
    refine s_q rfl rfl rfl (q_move rfl rfl) ?_
    refine s_and2 5 48 92 98 97 _ _ rfl rfl rfl rfl rfl rfl (fun h98 => by
        try simp at h98
        refine s_g rfl rfl rfl rfl rfl rfl (q_move rfl rfl) ?_
        refine s_g rfl rfl rfl rfl rfl rfl (q_move rfl rfl) ?_
        refine s_g rfl rfl rfl rfl rfl rfl (q_move rfl rfl) ?_
        refine s_g rfl rfl rfl rfl rfl rfl (q_sub rfl rfl rfl) ?_
        refine s_g rfl rfl rfl rfl rfl rfl (q_eql rfl rfl rfl) ?_
        exact s_val rfl
      ) (wanted_n rfl) rfl rfl rfl ?_
    refine s_q rfl rfl rfl (q_move rfl rfl) ?_
    refine s_and2 3 55 99 103 102 _ _ rfl rfl rfl rfl rfl rfl (fun h103 => by
        try simp at h103
        refine s_g rfl rfl rfl rfl rfl rfl (q_move rfl rfl) ?_
        refine s_g rfl rfl rfl rfl rfl rfl ((by first | exact q_lenV rfl Tryd.underlying24 rfl | exact q_len rfl Tryd.underlying24 rfl (Sl.lenOf (n := 0) (hs28.mono (hJ34.trans hJ40)) rfl) | exact q_len rfl Tryd.underlying24 rfl (Sl.lenOf (n := 2) (hs34.mono hJ40) rfl) | exact q_len rfl Tryd.underlying24 rfl (Sl.lenOf (n := 1) hs40 rfl))) ?_
        refine s_g rfl rfl rfl rfl rfl rfl (q_eql rfl rfl rfl) ?_
        exact s_val rfl
      ) (wanted_n rfl) rfl rfl rfl ?_
    refine s_q rfl rfl rfl (q_move rfl rfl) ?_
    refine s_and2 8 60 104 113 112 _ _ rfl rfl rfl rfl rfl rfl (fun h113 => by
        try simp at h113
        refine s_g rfl rfl rfl rfl rfl rfl (q_move rfl rfl) ?_
        refine s_g rfl rfl rfl rfl rfl rfl ((by first | exact q_indexAddrVN rfl Tryd.underlying24 ti37 rfl rfl (by omega) | exact q_indexAddrN rfl Tryd.underlying24 ti37 rfl rfl (Sl.shape (n := 2) (hs34.mono hJ40) rfl) (by omega) | exact q_indexAddrN rfl Tryd.underlying24 ti37 rfl rfl (Sl.shape (n := 1) hs40 rfl) (by omega) | exact q_indexAddrV rfl Tryd.underlying24 ti37 rfl rfl (by omega) | exact q_indexAddr rfl Tryd.underlying24 ti37 rfl rfl (Sl.shape (n := 2) (hs34.mono hJ40) rfl) (by omega) | exact q_indexAddr rfl Tryd.underlying24 ti37 rfl rfl (Sl.shape (n := 1) hs40 rfl) (by omega))) ?_
        refine s_g rfl rfl rfl rfl rfl rfl ((by first | exact q_load_rowA rfl Tryd.underlying37 ti37 rfl rfl rfl | exact q_load_agg rfl Tryd.underlying37 ti37 rfl rfl (rds_as (l := [([97], b), ([98], b)]) (i := 0) (hs34.mono hJ40) (by simp)) | exact q_load_agg rfl Tryd.underlying37 ti37 rfl rfl (rds_as (l := [([97], b), ([98], b)]) (i := 1) (hs34.mono hJ40) (by simp)) | exact q_load_agg rfl Tryd.underlying37 ti37 rfl rfl (rds_as (l := [([97], w64 (a - b))]) (i := 0) hs40 (by simp)))) ?_
        refine s_g rfl rfl rfl rfl rfl rfl (q_move rfl rfl) ?_
        refine s_g rfl rfl rfl rfl rfl rfl (q_move rfl rfl) ?_
        refine s_g rfl rfl rfl rfl rfl rfl (q_sub rfl rfl rfl) ?_
        refine s_g rfl rfl rfl rfl rfl rfl (q_build (pl := [(_, _), (_, _)]) (cs := (asC ([97], w64 (a - b))).toArray) rfl Tryd.underlying37 ti37 ⟨rfl, ⟨_, _, ti9⟩, rfl, ⟨_, _, ti2⟩, trivial⟩ rfl rfl) ?_
        refine s_g rfl rfl rfl rfl rfl rfl (q_eql_st rfl (by kernel_rfl) rfl rfl (eqAs _ _)) ?_
        exact s_val rfl
      ) (wanted_n rfl) rfl rfl rfl ?_
    refine s_q rfl rfl rfl (q_assign rfl rfl) ?_
    refine s_done ?_
    refine n_then ?_
    refine t_ret ?_
    refine n_ret1 rfl rfl (fun w' hw => ?_)
    -- leaf 0
    refine ⟨?_, (hw.less ((((hJ.trans hJ28).trans hJ34).trans hJ40))).below⟩
    simp [w64]
    exact ⟨⟨rfl, rfl⟩, decide_eq_true rfl⟩
end Go.Tri
