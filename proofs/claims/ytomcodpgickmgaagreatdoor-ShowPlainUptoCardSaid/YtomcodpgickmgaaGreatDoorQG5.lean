/-
  A tree shown, if it is read as that tree.
-/
import Derived.Test.YtomcodpgickmgaaGreatDoorQG3
import Derived.Test.YtomcodpgickmgaaGreatDoorPShow2
namespace Go.Tri
open Go.Proofs Go.RowKit
mutual
/-- a tree without redirections -/
def NoR : Nd → Prop
  | .mk _ _ _ _ ws rs ks => rs = [] ∧ ws.length ≤ 1000000 ∧ ks.length ≤ 1000000 ∧ NoRs ks
def NoRs : List Nd → Prop
  | [] => True
  | k :: ks => NoR k ∧ NoRs ks
end
theorem NoRs.nth {ks : List Nd} (h : NoRs ks) : ∀ {i : Nat}, i < ks.length → NoR (nth ks i nd0) := by
  induction ks with
  | nil => intro i hi; exact absurd hi (Nat.not_lt_zero i)
  | cons k ks ih =>
    intro i hi
    unfold NoRs at h
    cases i with
    | zero => exact h.1
    | succ i => exact ih h.2 (by simpa using hi)
set_option maxRecDepth 10000 in
theorem eqStr_pure (u v : Value) (ws : List (List UInt8)) (w : World) (hn0 : ws.length ≤ 1000000) (hu : Sl (look w) 1 u (ws.map stC)) (hv : Sl (look w) 1 v (ws.map stC)) : Pure Tryz.prog 44 [u, v] w (.bool true) := by
  refine enter Tryz.func44 rfl Tryz.ntmps44 rfl (St.start w (look w) (Le.refl _)) ?_
  refine t_seq ?_
  refine t_region ?_
  refine l_q rfl rfl rfl (q_assign rfl rfl) ?_
  refine l_nil ?_
  refine n_then ?_
  refine t_seq ?_
  refine t_seq ?_
  refine t_region ?_
  refine l_q rfl rfl rfl (q_move rfl rfl) ?_
  refine l_q rfl rfl rfl ((by first | exact q_lenV rfl Tryz.underlying25 rfl | exact q_len rfl Tryz.underlying25 rfl (Sl.lenOf hu (List.length_map _)) | exact q_len rfl Tryz.underlying25 rfl (Sl.lenOf hv (List.length_map _)))) ?_
  refine l_q rfl rfl rfl (q_move rfl rfl) ?_
  refine l_q rfl rfl rfl ((by first | exact q_lenV rfl Tryz.underlying25 rfl | exact q_len rfl Tryz.underlying25 rfl (Sl.lenOf hu (List.length_map _)) | exact q_len rfl Tryz.underlying25 rfl (Sl.lenOf hv (List.length_map _)))) ?_
  refine l_q rfl rfl rfl (q_neq rfl rfl rfl) ?_
  refine l_nil ?_
  refine n_then ?_
  refine t_cond rfl (fun hc0 => ?_) (fun hc0 => ?_)
  · skip
    try simp at hc0
  · skip
    try simp at hc0
    refine t_skip ?_
    refine n_then ?_
    refine t_seq ?_
    refine t_seq ?_
    refine t_region ?_
    refine l_q rfl rfl rfl (q_move rfl rfl) ?_
    refine l_q rfl rfl rfl ((by first | exact q_lenV rfl Tryz.underlying25 rfl | exact q_len rfl Tryz.underlying25 rfl (Sl.lenOf hu (List.length_map _)) | exact q_len rfl Tryz.underlying25 rfl (Sl.lenOf hv (List.length_map _)))) ?_
    refine l_q rfl rfl rfl (q_move rfl rfl) ?_
    refine l_nil ?_
    refine n_then ?_
    refine t_block ?_
    refine t_loopE (ι := Nat) (fun zz => zz ≤ ws.length) (fun zz => ws.length - zz) (fun zz => [(13, .int .i64 (zz : Int))]) [(0, _), (1, _), (10, _), (12, _)] (fun zz => look w) (fun zz => []) 0 ?_ (sub_cons rfl sub_nil) (sub_cons rfl (sub_cons rfl (sub_cons rfl (sub_cons rfl sub_nil)))) (fun _ h => subC_st h) ?_
    · try dsimp only
      exact Nat.zero_le _
    rintro i hi
    try dsimp only at *
    refine t_seq ?_
    refine t_region ?_
    refine l_q rfl rfl rfl (q_lss rfl rfl rfl) ?_
    refine l_nil ?_
    refine n_then ?_
    refine t_seq ?_
    refine t_cond rfl (fun hc1 => ?_) (fun hc1 => ?_)
    · skip
      try simp at hc1
      refine t_skip ?_
      refine n_then ?_
      refine t_seq ?_
      refine t_block ?_
      refine t_seq ?_
      refine t_region ?_
      refine l_q rfl rfl rfl (q_move rfl rfl) ?_
      refine l_q rfl rfl rfl (q_assign rfl rfl) ?_
      refine l_nil ?_
      refine n_then ?_
      refine t_seq ?_
      refine t_qdraw mo (by kernel_rfl) (fun _ _ _ _ _ h => h) ?_
      refine s_q rfl rfl rfl (q_move rfl rfl) ?_
      refine s_q rfl rfl rfl (q_move rfl rfl) ?_
      refine s_q rfl rfl rfl ((by first | exact q_indexAddrVN rfl Tryz.underlying25 ti9 rfl rfl (by omega) | exact q_indexAddrN rfl Tryz.underlying25 ti9 rfl rfl (Sl.shape hu (List.length_map _)) (by omega) | exact q_indexAddrN rfl Tryz.underlying25 ti9 rfl rfl (Sl.shape hv (List.length_map _)) (by omega) | exact q_indexAddrV rfl Tryz.underlying25 ti9 rfl rfl (by omega) | exact q_indexAddr rfl Tryz.underlying25 ti9 rfl rfl (Sl.shape hu (List.length_map _)) (by omega) | exact q_indexAddr rfl Tryz.underlying25 ti9 rfl rfl (Sl.shape hv (List.length_map _)) (by omega))) ?_
      refine s_q rfl rfl rfl ((by first | exact q_load_row rfl Tryz.underlying9 rfl rfl (by rfl) | exact q_load rfl Tryz.underlying9 rfl rfl (rd_st (i := i) hu (by omega)) | exact q_load rfl Tryz.underlying9 rfl rfl (rd_st (i := i) hv (by omega)))) ?_
      refine s_q rfl rfl rfl (q_move rfl rfl) ?_
      refine s_q rfl rfl rfl (q_move rfl rfl) ?_
      refine s_q rfl rfl rfl ((by first | exact q_indexAddrVN rfl Tryz.underlying25 ti9 rfl rfl (by omega) | exact q_indexAddrN rfl Tryz.underlying25 ti9 rfl rfl (Sl.shape hu (List.length_map _)) (by omega) | exact q_indexAddrN rfl Tryz.underlying25 ti9 rfl rfl (Sl.shape hv (List.length_map _)) (by omega) | exact q_indexAddrV rfl Tryz.underlying25 ti9 rfl rfl (by omega) | exact q_indexAddr rfl Tryz.underlying25 ti9 rfl rfl (Sl.shape hu (List.length_map _)) (by omega) | exact q_indexAddr rfl Tryz.underlying25 ti9 rfl rfl (Sl.shape hv (List.length_map _)) (by omega))) ?_
      refine s_q rfl rfl rfl ((by first | exact q_load_row rfl Tryz.underlying9 rfl rfl (by rfl) | exact q_load rfl Tryz.underlying9 rfl rfl (rd_st (i := i) hu (by omega)) | exact q_load rfl Tryz.underlying9 rfl rfl (rd_st (i := i) hv (by omega)))) ?_
      refine s_q rfl rfl rfl (q_neq_str rfl rfl rfl) ?_
      refine s_done ?_
      refine n_then ?_
      refine t_cond rfl (fun hc2 => ?_) (fun hc2 => ?_)
      · skip
        exfalso
        simp at hc2
      · skip
        refine t_skip ?_
        refine n_block ?_
        refine n_then ?_
        refine t_region ?_
        refine l_q rfl rfl rfl (q_add64 rfl rfl rfl (by omega)) ?_
        refine l_q rfl rfl rfl (q_move rfl rfl) ?_
        refine l_nil ?_
        refine n_roundE (i + 1) ?_ ?_ (sub_cons rfl sub_nil) (sub_cons rfl (sub_cons rfl (sub_cons rfl (sub_cons rfl sub_nil)))) (fun _ h => by try dsimp only; exact subC_st h)
        · try dsimp only
          omega
        · try dsimp only
          omega
    · skip
      try simp at hc1
      refine t_exit ?_
      refine n_exit_then ?_
      refine n_exit_then ?_
      refine n_exit_block ?_
      refine n_then ?_
      refine t_seq ?_
      refine t_region ?_
      refine l_q rfl rfl rfl (q_assign rfl rfl) ?_
      refine l_nil ?_
      refine n_then ?_
      refine t_ret ?_
      refine n_ret1 rfl rfl (fun w' hw => ?_)
      -- leaf 0
      exact ⟨rfl, hw.below⟩
set_option maxRecDepth 10000 in
theorem eqRd_pure (u v : Value) (w : World) (hu : Sl (look w) 5 u []) (hv : Sl (look w) 5 v []) : Pure Tryz.prog 45 [u, v] w (.bool true) := by
  refine enter Tryz.func45 rfl Tryz.ntmps45 rfl (St.start w (look w) (Le.refl _)) ?_
  refine t_seq ?_
  refine t_region ?_
  refine l_q rfl rfl rfl (q_assign rfl rfl) ?_
  refine l_nil ?_
  refine n_then ?_
  refine t_seq ?_
  refine t_seq ?_
  refine t_region ?_
  refine l_q rfl rfl rfl (q_move rfl rfl) ?_
  refine l_q rfl rfl rfl ((by first | exact q_lenV rfl Tryz.underlying26 rfl | exact q_len rfl Tryz.underlying26 rfl (Sl.lenOf (n := 0) hu rfl) | exact q_len rfl Tryz.underlying26 rfl (Sl.lenOf (n := 0) hv rfl))) ?_
  refine l_q rfl rfl rfl (q_move rfl rfl) ?_
  refine l_q rfl rfl rfl ((by first | exact q_lenV rfl Tryz.underlying26 rfl | exact q_len rfl Tryz.underlying26 rfl (Sl.lenOf (n := 0) hu rfl) | exact q_len rfl Tryz.underlying26 rfl (Sl.lenOf (n := 0) hv rfl))) ?_
  refine l_q rfl rfl rfl (q_neq rfl rfl rfl) ?_
  refine l_nil ?_
  refine n_then ?_
  refine t_cond rfl (fun hc0 => ?_) (fun hc0 => ?_)
  · skip
    try simp at hc0
  · skip
    try simp at hc0
    refine t_skip ?_
    refine n_then ?_
    refine t_seq ?_
    refine t_seq ?_
    refine t_region ?_
    refine l_q rfl rfl rfl (q_move rfl rfl) ?_
    refine l_q rfl rfl rfl ((by first | exact q_lenV rfl Tryz.underlying26 rfl | exact q_len rfl Tryz.underlying26 rfl (Sl.lenOf (n := 0) hu rfl) | exact q_len rfl Tryz.underlying26 rfl (Sl.lenOf (n := 0) hv rfl))) ?_
    refine l_q rfl rfl rfl (q_move rfl rfl) ?_
    refine l_nil ?_
    refine n_then ?_
    refine t_block ?_
    refine t_loopE (ι := Unit) (fun _ => True) (fun _ => 0) (fun _ => [(13, .int .i64 0)]) [(0, _), (1, _), (10, _), (12, _)] (fun _ => look w) (fun _ => []) () ?_ (sub_cons rfl sub_nil) (sub_cons rfl (sub_cons rfl (sub_cons rfl (sub_cons rfl sub_nil)))) (fun _ h => subC_st h) ?_
    · try dsimp only
      all_goals trivial
    rintro _ _
    refine t_seq ?_
    refine t_region ?_
    refine l_q rfl rfl rfl (q_lss rfl rfl rfl) ?_
    refine l_nil ?_
    refine n_then ?_
    refine t_seq ?_
    refine t_cond rfl (fun hc1 => ?_) (fun hc1 => ?_)
    · skip
      try simp at hc1
    · skip
      try simp at hc1
      refine t_exit ?_
      refine n_exit_then ?_
      refine n_exit_then ?_
      refine n_exit_block ?_
      refine n_then ?_
      refine t_seq ?_
      refine t_region ?_
      refine l_q rfl rfl rfl (q_assign rfl rfl) ?_
      refine l_nil ?_
      refine n_then ?_
      refine t_ret ?_
      refine n_ret1 rfl rfl (fun w' hw => ?_)
      -- leaf 0
      exact ⟨rfl, hw.below⟩
set_option maxRecDepth 10000 in
theorem alike_walk (k : Nat) (nt isin : Bool) (nm : List UInt8) (ws : List (List UInt8)) (ks : List Nd) (wv rv kv wv2 rv2 kv2 : Value) (cs cs2 : List NC) (w : World) (hwn : ws.length ≤ 1000000) (hkn : ks.length ≤ 1000000) (h5 : Sl (look w) 1 wv (ws.map stC)) (h6 : Sl (look w) 5 rv []) (h7 : Sl (look w) 7 kv (cs.map ncC)) (g5 : Sl (look w) 1 wv2 (ws.map stC)) (g6 : Sl (look w) 5 rv2 []) (g7 : Sl (look w) 7 kv2 (cs2.map ncC)) (hcl : cs.length = ks.length) (gcl : cs2.length = ks.length) (hrec : ∀ i, i < ks.length → ∀ w', Le (look w) (look w') → Pure Tryz.prog 30 [.agg (ncC (nth cs i nc0)).toArray, .agg (ncC (nth cs2 i nc0)).toArray] w' (.bool true)) : Pure Tryz.prog 30 [.agg (ncC ⟨k, nt, isin, nm, wv, rv, kv⟩).toArray, .agg (ncC ⟨k, nt, isin, nm, wv2, rv2, kv2⟩).toArray] w (.bool true) := by
  refine enter Tryz.func30 rfl Tryz.ntmps30 rfl (St.start w (look w) (Le.refl _)) ?_
  refine t_seq ?_
  refine t_region ?_
  refine l_e rfl rfl rfl (e_box rfl rfl rfl) ?_
  rintro _ _ _ ⟨b2, rfl, rfl, rfl⟩
  refine l_heap (H' := row b2 29 (ncC ⟨k, nt, isin, nm, wv, rv, kv⟩) :: _) ?_ (fun _ h => h)
  refine l_e rfl rfl rfl (e_box rfl rfl rfl) ?_
  rintro _ _ _ ⟨b3, rfl, rfl, rfl⟩
  refine l_heap (H' := row b3 29 (ncC ⟨k, nt, isin, nm, wv2, rv2, kv2⟩) :: _) ?_ (fun _ h => h)
  refine l_q rfl rfl rfl (q_assign rfl rfl) ?_
  refine l_nil ?_
  refine n_then ?_
  refine t_seq ?_
  refine t_seq ?_
  refine t_qreg ?_
  refine s_q rfl rfl rfl (q_fieldAddr rfl Tryz.underlying29 rfl rfl ti3 rfl rfl) ?_
  refine s_q rfl rfl rfl (q_load_row rfl Tryz.underlying3 rfl rfl (by rfl)) ?_
  refine s_q rfl rfl rfl (q_fieldAddr rfl Tryz.underlying29 rfl rfl ti3 rfl rfl) ?_
  refine s_q rfl rfl rfl (q_load_row rfl Tryz.underlying3 rfl rfl (by rfl)) ?_
  refine s_q rfl rfl rfl (q_neq rfl rfl rfl) ?_
  refine s_q rfl rfl rfl (q_move rfl rfl) ?_
  refine s_or2 5 5 11 17 16 _ _ rfl rfl rfl rfl rfl rfl (fun h17 => by
      try simp at h17
      refine s_g rfl rfl rfl rfl rfl rfl (q_fieldAddr rfl Tryz.underlying29 rfl rfl ti4 rfl rfl) ?_
      refine s_g rfl rfl rfl rfl rfl rfl (q_load_row rfl Tryz.underlying4 rfl rfl (by rfl)) ?_
      refine s_g rfl rfl rfl rfl rfl rfl (q_fieldAddr rfl Tryz.underlying29 rfl rfl ti4 rfl rfl) ?_
      refine s_g rfl rfl rfl rfl rfl rfl (q_load_row rfl Tryz.underlying4 rfl rfl (by rfl)) ?_
      refine s_g rfl rfl rfl rfl rfl rfl (q_neq_bool rfl Tryz.underlying4 rfl rfl) ?_
      exact s_val rfl
    ) (wanted_n rfl) rfl rfl rfl ?_
  refine s_q rfl rfl rfl (q_move rfl rfl) ?_
  refine s_or2 5 12 18 24 23 _ _ rfl rfl rfl rfl rfl rfl (fun h24 => by
      try simp at h24
      refine s_g rfl rfl rfl rfl rfl rfl (q_fieldAddr rfl Tryz.underlying29 rfl rfl ti4 rfl rfl) ?_
      refine s_g rfl rfl rfl rfl rfl rfl (q_load_row rfl Tryz.underlying4 rfl rfl (by rfl)) ?_
      refine s_g rfl rfl rfl rfl rfl rfl (q_fieldAddr rfl Tryz.underlying29 rfl rfl ti4 rfl rfl) ?_
      refine s_g rfl rfl rfl rfl rfl rfl (q_load_row rfl Tryz.underlying4 rfl rfl (by rfl)) ?_
      refine s_g rfl rfl rfl rfl rfl rfl (q_neq_bool rfl Tryz.underlying4 rfl rfl) ?_
      exact s_val rfl
    ) (wanted_n rfl) rfl rfl rfl ?_
  refine s_q rfl rfl rfl (q_move rfl rfl) ?_
  refine s_or2 5 19 25 31 30 _ _ rfl rfl rfl rfl rfl rfl (fun h31 => by
      try simp at h31
      refine s_g rfl rfl rfl rfl rfl rfl (q_fieldAddr rfl Tryz.underlying29 rfl rfl ti9 rfl rfl) ?_
      refine s_g rfl rfl rfl rfl rfl rfl (q_load_row rfl Tryz.underlying9 rfl rfl (by rfl)) ?_
      refine s_g rfl rfl rfl rfl rfl rfl (q_fieldAddr rfl Tryz.underlying29 rfl rfl ti9 rfl rfl) ?_
      refine s_g rfl rfl rfl rfl rfl rfl (q_load_row rfl Tryz.underlying9 rfl rfl (by rfl)) ?_
      refine s_g rfl rfl rfl rfl rfl rfl (q_neq_str rfl rfl rfl) ?_
      exact s_val rfl
    ) (wanted_n rfl) rfl rfl rfl ?_
  refine s_q rfl rfl rfl (q_move rfl rfl) ?_
  refine s_or2 7 26 32 40 39 _ _ rfl rfl rfl rfl rfl rfl (fun h40 => by
      try simp at h40
      refine s_g rfl rfl rfl rfl rfl rfl (q_fieldAddr rfl Tryz.underlying29 rfl rfl ti25 rfl rfl) ?_
      refine s_g rfl rfl rfl rfl rfl rfl (q_load_row rfl Tryz.underlying25 rfl rfl (by rfl)) ?_
      refine s_g rfl rfl rfl rfl rfl rfl ((by first | exact q_lenV rfl Tryz.underlying25 rfl | exact q_len rfl Tryz.underlying25 rfl (Sl.lenOf h5 (List.length_map _)) | exact q_len rfl Tryz.underlying25 rfl (Sl.lenOf g5 (List.length_map _)) | exact q_len rfl Tryz.underlying25 rfl (Sl.lenOf (n := 0) h6 rfl) | exact q_len rfl Tryz.underlying25 rfl (Sl.lenOf (n := 0) g6 rfl) | exact q_len rfl Tryz.underlying25 rfl (Sl.lenOf h7 (List.length_map _)) | exact q_len rfl Tryz.underlying25 rfl (Sl.lenOf g7 (List.length_map _)))) ?_
      refine s_g rfl rfl rfl rfl rfl rfl (q_fieldAddr rfl Tryz.underlying29 rfl rfl ti25 rfl rfl) ?_
      refine s_g rfl rfl rfl rfl rfl rfl (q_load_row rfl Tryz.underlying25 rfl rfl (by rfl)) ?_
      refine s_g rfl rfl rfl rfl rfl rfl ((by first | exact q_lenV rfl Tryz.underlying25 rfl | exact q_len rfl Tryz.underlying25 rfl (Sl.lenOf h5 (List.length_map _)) | exact q_len rfl Tryz.underlying25 rfl (Sl.lenOf g5 (List.length_map _)) | exact q_len rfl Tryz.underlying25 rfl (Sl.lenOf (n := 0) h6 rfl) | exact q_len rfl Tryz.underlying25 rfl (Sl.lenOf (n := 0) g6 rfl) | exact q_len rfl Tryz.underlying25 rfl (Sl.lenOf h7 (List.length_map _)) | exact q_len rfl Tryz.underlying25 rfl (Sl.lenOf g7 (List.length_map _)))) ?_
      refine s_g rfl rfl rfl rfl rfl rfl (q_neq rfl rfl rfl) ?_
      exact s_val rfl
    ) (wanted_n rfl) rfl rfl rfl ?_
  refine s_q rfl rfl rfl (q_move rfl rfl) ?_
  refine s_or2 7 35 41 49 48 _ _ rfl rfl rfl rfl rfl rfl (fun h49 => by
      try simp at h49
      refine s_g rfl rfl rfl rfl rfl rfl (q_fieldAddr rfl Tryz.underlying29 rfl rfl ti26 rfl rfl) ?_
      refine s_g rfl rfl rfl rfl rfl rfl (q_load_row rfl Tryz.underlying26 rfl rfl (by rfl)) ?_
      refine s_g rfl rfl rfl rfl rfl rfl ((by first | exact q_lenV rfl Tryz.underlying26 rfl | exact q_len rfl Tryz.underlying26 rfl (Sl.lenOf h5 (List.length_map _)) | exact q_len rfl Tryz.underlying26 rfl (Sl.lenOf g5 (List.length_map _)) | exact q_len rfl Tryz.underlying26 rfl (Sl.lenOf (n := 0) h6 rfl) | exact q_len rfl Tryz.underlying26 rfl (Sl.lenOf (n := 0) g6 rfl) | exact q_len rfl Tryz.underlying26 rfl (Sl.lenOf h7 (List.length_map _)) | exact q_len rfl Tryz.underlying26 rfl (Sl.lenOf g7 (List.length_map _)))) ?_
      refine s_g rfl rfl rfl rfl rfl rfl (q_fieldAddr rfl Tryz.underlying29 rfl rfl ti26 rfl rfl) ?_
      refine s_g rfl rfl rfl rfl rfl rfl (q_load_row rfl Tryz.underlying26 rfl rfl (by rfl)) ?_
      refine s_g rfl rfl rfl rfl rfl rfl ((by first | exact q_lenV rfl Tryz.underlying26 rfl | exact q_len rfl Tryz.underlying26 rfl (Sl.lenOf h5 (List.length_map _)) | exact q_len rfl Tryz.underlying26 rfl (Sl.lenOf g5 (List.length_map _)) | exact q_len rfl Tryz.underlying26 rfl (Sl.lenOf (n := 0) h6 rfl) | exact q_len rfl Tryz.underlying26 rfl (Sl.lenOf (n := 0) g6 rfl) | exact q_len rfl Tryz.underlying26 rfl (Sl.lenOf h7 (List.length_map _)) | exact q_len rfl Tryz.underlying26 rfl (Sl.lenOf g7 (List.length_map _)))) ?_
      refine s_g rfl rfl rfl rfl rfl rfl (q_neq rfl rfl rfl) ?_
      exact s_val rfl
    ) (wanted_n rfl) rfl rfl rfl ?_
  refine s_q rfl rfl rfl (q_move rfl rfl) ?_
  refine s_or2 7 44 50 58 57 _ _ rfl rfl rfl rfl rfl rfl (fun h58 => by
      try simp at h58
      refine s_g rfl rfl rfl rfl rfl rfl (q_fieldAddr rfl Tryz.underlying29 rfl rfl ti27 rfl rfl) ?_
      refine s_g rfl rfl rfl rfl rfl rfl (q_load_row rfl Tryz.underlying27 rfl rfl (by rfl)) ?_
      refine s_g rfl rfl rfl rfl rfl rfl ((by first | exact q_lenV rfl Tryz.underlying27 rfl | exact q_len rfl Tryz.underlying27 rfl (Sl.lenOf h5 (List.length_map _)) | exact q_len rfl Tryz.underlying27 rfl (Sl.lenOf g5 (List.length_map _)) | exact q_len rfl Tryz.underlying27 rfl (Sl.lenOf (n := 0) h6 rfl) | exact q_len rfl Tryz.underlying27 rfl (Sl.lenOf (n := 0) g6 rfl) | exact q_len rfl Tryz.underlying27 rfl (Sl.lenOf h7 (List.length_map _)) | exact q_len rfl Tryz.underlying27 rfl (Sl.lenOf g7 (List.length_map _)))) ?_
      refine s_g rfl rfl rfl rfl rfl rfl (q_fieldAddr rfl Tryz.underlying29 rfl rfl ti27 rfl rfl) ?_
      refine s_g rfl rfl rfl rfl rfl rfl (q_load_row rfl Tryz.underlying27 rfl rfl (by rfl)) ?_
      refine s_g rfl rfl rfl rfl rfl rfl ((by first | exact q_lenV rfl Tryz.underlying27 rfl | exact q_len rfl Tryz.underlying27 rfl (Sl.lenOf h5 (List.length_map _)) | exact q_len rfl Tryz.underlying27 rfl (Sl.lenOf g5 (List.length_map _)) | exact q_len rfl Tryz.underlying27 rfl (Sl.lenOf (n := 0) h6 rfl) | exact q_len rfl Tryz.underlying27 rfl (Sl.lenOf (n := 0) g6 rfl) | exact q_len rfl Tryz.underlying27 rfl (Sl.lenOf h7 (List.length_map _)) | exact q_len rfl Tryz.underlying27 rfl (Sl.lenOf g7 (List.length_map _)))) ?_
      refine s_g rfl rfl rfl rfl rfl rfl (q_neq rfl rfl rfl) ?_
      exact s_val rfl
    ) (wanted_n rfl) rfl rfl rfl ?_
  refine s_done ?_
  refine n_then ?_
  refine t_cond rfl (fun hc0 => ?_) (fun hc0 => ?_)
  · skip
    exfalso
    simp [hcl, gcl] at hc0
  · skip
    refine t_skip ?_
    refine n_then ?_
    refine t_seq ?_
    refine t_seq ?_
    refine t_qreg ?_
    refine s_q rfl rfl rfl (q_fieldAddr rfl Tryz.underlying29 rfl rfl ti25 rfl rfl) ?_
    refine s_q rfl rfl rfl (q_load_row rfl Tryz.underlying25 rfl rfl (by rfl)) ?_
    refine s_q rfl rfl rfl (q_fieldAddr rfl Tryz.underlying29 rfl rfl ti25 rfl rfl) ?_
    refine s_q rfl rfl rfl (q_load_row rfl Tryz.underlying25 rfl rfl (by rfl)) ?_
    refine s_q rfl rfl rfl (quiet_call rfl rfl rfl Tryz.func44 (by kernel_rfl) rfl ((fun w hw => eqStr_pure wv wv2 ws w hwn (h5.mono hw.le) (g5.mono hw.le)))) ?_
    refine s_q rfl rfl rfl (q_not rfl rfl) ?_
    refine s_q rfl rfl rfl (q_move rfl rfl) ?_
    refine s_or2 6 6 65 72 71 _ _ rfl rfl rfl rfl rfl rfl (fun h72 => by
        try simp at h72
        refine s_g rfl rfl rfl rfl rfl rfl (q_fieldAddr rfl Tryz.underlying29 rfl rfl ti26 rfl rfl) ?_
        refine s_g rfl rfl rfl rfl rfl rfl (q_load_row rfl Tryz.underlying26 rfl rfl (by rfl)) ?_
        refine s_g rfl rfl rfl rfl rfl rfl (q_fieldAddr rfl Tryz.underlying29 rfl rfl ti26 rfl rfl) ?_
        refine s_g rfl rfl rfl rfl rfl rfl (q_load_row rfl Tryz.underlying26 rfl rfl (by rfl)) ?_
        refine s_g rfl rfl rfl rfl rfl rfl (quiet_call rfl rfl rfl Tryz.func45 (by kernel_rfl) rfl ((fun w hw => eqRd_pure rv rv2 w (h6.mono hw.le) (g6.mono hw.le)))) ?_
        refine s_g rfl rfl rfl rfl rfl rfl (q_not rfl rfl) ?_
        exact s_val rfl
      ) (wanted_n rfl) rfl rfl rfl ?_
    refine s_done ?_
    refine n_then ?_
    refine t_cond rfl (fun hc1 => ?_) (fun hc1 => ?_)
    · skip
      try simp at hc1
    · skip
      try simp at hc1
      refine t_skip ?_
      refine n_then ?_
      refine t_seq ?_
      refine t_seq ?_
      refine t_region ?_
      refine l_q rfl rfl rfl (q_fieldAddr rfl Tryz.underlying29 rfl rfl ti27 rfl rfl) ?_
      refine l_q rfl rfl rfl (q_load_row rfl Tryz.underlying27 rfl rfl (by rfl)) ?_
      refine l_q rfl rfl rfl ((by first | exact q_lenV rfl Tryz.underlying27 rfl | exact q_len rfl Tryz.underlying27 rfl (Sl.lenOf h5 (List.length_map _)) | exact q_len rfl Tryz.underlying27 rfl (Sl.lenOf g5 (List.length_map _)) | exact q_len rfl Tryz.underlying27 rfl (Sl.lenOf (n := 0) h6 rfl) | exact q_len rfl Tryz.underlying27 rfl (Sl.lenOf (n := 0) g6 rfl) | exact q_len rfl Tryz.underlying27 rfl (Sl.lenOf h7 (List.length_map _)) | exact q_len rfl Tryz.underlying27 rfl (Sl.lenOf g7 (List.length_map _)))) ?_
      refine l_q rfl rfl rfl (q_move rfl rfl) ?_
      refine l_nil ?_
      refine n_then ?_
      refine t_block ?_
      refine t_loopE (ι := Nat) (fun zz => zz ≤ ks.length) (fun zz => ks.length - zz) (fun zz => [(76, .int .i64 (zz : Int))]) [(0, _), (1, _), (2, _), (3, _), (58, _), (72, _), (75, _)] (fun zz => look w) (fun zz => [row b3 29 (ncC ⟨k, nt, isin, nm, wv2, rv2, kv2⟩), row b2 29 (ncC ⟨k, nt, isin, nm, wv, rv, kv⟩)]) 0 ?_ (sub_cons rfl sub_nil) (sub_cons rfl (sub_cons rfl (sub_cons rfl (sub_cons rfl (sub_cons rfl (sub_cons rfl (sub_cons rfl sub_nil))))))) (fun _ h => subC_st h) ?_
      · try dsimp only
        exact Nat.zero_le _
      rintro i hi
      try dsimp only at *
      refine t_seq ?_
      refine t_region ?_
      refine l_q rfl rfl rfl (q_lss rfl rfl rfl) ?_
      refine l_nil ?_
      refine n_then ?_
      refine t_seq ?_
      refine t_cond rfl (fun hc2 => ?_) (fun hc2 => ?_)
      · skip
        try simp at hc2
        refine t_skip ?_
        refine n_then ?_
        refine t_seq ?_
        refine t_block ?_
        refine t_seq ?_
        refine t_region ?_
        refine l_q rfl rfl rfl (q_move rfl rfl) ?_
        refine l_q rfl rfl rfl (q_assign rfl rfl) ?_
        refine l_nil ?_
        refine n_then ?_
        refine t_seq ?_
        refine t_qdraw mo (by kernel_rfl) (fun _ _ _ _ _ h => h) ?_
        refine s_q rfl rfl rfl (q_fieldAddr rfl Tryz.underlying29 rfl rfl ti27 rfl rfl) ?_
        refine s_q rfl rfl rfl (q_load_row rfl Tryz.underlying27 rfl rfl (by rfl)) ?_
        refine s_q rfl rfl rfl (q_move rfl rfl) ?_
        refine s_q rfl rfl rfl ((by first | exact q_indexAddrVN rfl Tryz.underlying27 ti29 rfl rfl (by omega) | exact q_indexAddrN rfl Tryz.underlying27 ti29 rfl rfl (Sl.shape h7 (List.length_map _)) (by omega) | exact q_indexAddrN rfl Tryz.underlying27 ti29 rfl rfl (Sl.shape g7 (List.length_map _)) (by omega) | exact q_indexAddrV rfl Tryz.underlying27 ti29 rfl rfl (by omega) | exact q_indexAddr rfl Tryz.underlying27 ti29 rfl rfl (Sl.shape h7 (List.length_map _)) (by omega) | exact q_indexAddr rfl Tryz.underlying27 ti29 rfl rfl (Sl.shape g7 (List.length_map _)) (by omega))) ?_
        refine s_q rfl rfl rfl ((by first | exact q_load_rowA rfl Tryz.underlying29 ti29 rfl rfl rfl | exact q_load_agg rfl Tryz.underlying29 ti29 rfl rfl (h7.rds (nc_get (i := i) (by omega))) | exact q_load_agg rfl Tryz.underlying29 ti29 rfl rfl (g7.rds (nc_get (i := i) (by omega))))) ?_
        refine s_q rfl rfl rfl (q_fieldAddr rfl Tryz.underlying29 rfl rfl ti27 rfl rfl) ?_
        refine s_q rfl rfl rfl (q_load_row rfl Tryz.underlying27 rfl rfl (by rfl)) ?_
        refine s_q rfl rfl rfl (q_move rfl rfl) ?_
        refine s_q rfl rfl rfl ((by first | exact q_indexAddrVN rfl Tryz.underlying27 ti29 rfl rfl (by omega) | exact q_indexAddrN rfl Tryz.underlying27 ti29 rfl rfl (Sl.shape h7 (List.length_map _)) (by omega) | exact q_indexAddrN rfl Tryz.underlying27 ti29 rfl rfl (Sl.shape g7 (List.length_map _)) (by omega) | exact q_indexAddrV rfl Tryz.underlying27 ti29 rfl rfl (by omega) | exact q_indexAddr rfl Tryz.underlying27 ti29 rfl rfl (Sl.shape h7 (List.length_map _)) (by omega) | exact q_indexAddr rfl Tryz.underlying27 ti29 rfl rfl (Sl.shape g7 (List.length_map _)) (by omega))) ?_
        refine s_q rfl rfl rfl ((by first | exact q_load_rowA rfl Tryz.underlying29 ti29 rfl rfl rfl | exact q_load_agg rfl Tryz.underlying29 ti29 rfl rfl (h7.rds (nc_get (i := i) (by omega))) | exact q_load_agg rfl Tryz.underlying29 ti29 rfl rfl (g7.rds (nc_get (i := i) (by omega))))) ?_
        refine s_q rfl rfl rfl (quiet_call rfl rfl rfl Tryz.func30 (by kernel_rfl) rfl ((fun w hw => hrec i (by omega) w hw.le))) ?_
        refine s_q rfl rfl rfl (q_not rfl rfl) ?_
        refine s_done ?_
        refine n_then ?_
        refine t_cond rfl (fun hc3 => ?_) (fun hc3 => ?_)
        · skip
          try simp at hc3
        · skip
          try simp at hc3
          refine t_skip ?_
          refine n_block ?_
          refine n_then ?_
          refine t_region ?_
          refine l_q rfl rfl rfl (q_add64 rfl rfl rfl (by omega)) ?_
          refine l_q rfl rfl rfl (q_move rfl rfl) ?_
          refine l_nil ?_
          refine n_roundE (i + 1) ?_ ?_ (sub_cons rfl sub_nil) (sub_cons rfl (sub_cons rfl (sub_cons rfl (sub_cons rfl (sub_cons rfl (sub_cons rfl (sub_cons rfl sub_nil))))))) (fun _ h => by try dsimp only; exact subC_st h)
          · try dsimp only
            omega
          · try dsimp only
            omega
      · skip
        try simp at hc2
        refine t_exit ?_
        refine n_exit_then ?_
        refine n_exit_then ?_
        refine n_exit_block ?_
        refine n_then ?_
        refine t_seq ?_
        refine t_region ?_
        refine l_q rfl rfl rfl (q_assign rfl rfl) ?_
        refine l_nil ?_
        refine n_then ?_
        refine t_ret ?_
        refine n_ret1 rfl rfl (fun w' hw => ?_)
        -- leaf 0
        exact ⟨rfl, hw.below⟩
theorem alike_pure : ∀ (N : Nat) (n : Nd) (c e : NC) (w : World), SizeOf.sizeOf n ≤ N → NdAt (look w) n c → NdAt (look w) n e → NoR n → Pure Tryz.prog 30 [.agg (ncC c).toArray, .agg (ncC e).toArray] w (.bool true)
  | 0, n, _, _, _, h, _, _, _ => by
    have h1 : 1 ≤ SizeOf.sizeOf n := by (cases n; simp; omega)
    omega
  | N + 1, .mk k nt isin nm ws rs ks, c, e, w, h, hn, hm, hR => by
    unfold NdAt at hn hm
    obtain ⟨h1, h2, h3, h4, h5, h6, cs, h7, h8⟩ := hn
    obtain ⟨g1, g2, g3, g4, g5, g6, cs2, g7, g8⟩ := hm
    obtain ⟨ck, cnt, ci, cnm, wv, rv, kv⟩ := c
    obtain ⟨ek, ent, ei, enm, wv2, rv2, kv2⟩ := e
    subst h1 h2 h3 h4
    dsimp only at g1 g2 g3 g4
    subst g1 g2 g3 g4
    unfold NoR at hR
    obtain ⟨rfl, hwn, hkn, hR⟩ := hR
    refine alike_walk _ _ _ _ ws ks wv rv kv wv2 rv2 kv2 cs cs2 w hwn hkn h5 h6 h7 g5 g6 g7 h8.len g8.len (fun i hi w' hle => ?_)
    refine alike_pure N _ _ _ w' ?_ ((h8.nth hi).mono hle) ((g8.nth hi).mono hle) (hR.nth hi)
    have hm : nth ks i nd0 ∈ ks := by rw [nth_eq hi]; exact List.getElem_mem hi
    have := List.sizeOf_lt_of_mem hm
    simp at h
    omega
set_option maxRecDepth 10000 in
theorem whole_of (n : Nd) (out : List UInt8) (m : Nat) (h5 : n.kind ≠ 5) (hS : ShowC n out m) (hm : m ≤ 900) (b : Nat) (c : NC) (p : Option Addr) (vb : Value) (L : List UInt8) (I : Look) (F : List HA) (w0 w : World) (hp : p = none ∨ p = some ⟨b, 0, none⟩) (hbo : BufOk vb L) (hn : NdAt I n c) (hl : L.length + out.length ≤ 131072) (hw0 : St w0 I (row b 72 [.pointer p, vb, nilS', .bool false] :: tvec 5 1 byC vb L :: F) w) : Calls Tryz.prog 27 [pAt b, .agg (ncC c).toArray].toArray w (fun e w' => ∃ v, e = .returned v ∧ ∃ I' H', WrPost b L out I F v I' H' ∧ St w I' H' w') := by
  have hLe := Le.refl I
  have hk5 : c.kind ≠ 5 := by rw [hn.kind]; exact h5
  have hone := hn.ones
  refine enter Tryz.func27 rfl Tryz.ntmps27 rfl (hw0.self) ?_
  refine t_seq ?_
  refine t_region ?_
  refine l_e rfl rfl rfl (e_box rfl rfl rfl) ?_
  rintro _ _ _ ⟨b3, rfl, rfl, rfl⟩
  refine l_heap (H' := row b3 29 (ncC c) :: _) ?_ (fun _ h => h)
  refine l_nil ?_
  refine n_then ?_
  refine t_seq ?_
  refine t_seq ?_
  refine t_region ?_
  refine l_q rfl rfl rfl (q_fieldAddr rfl Tryz.underlying29 rfl rfl ti3 rfl rfl) ?_
  refine l_q rfl rfl rfl (q_load_row rfl Tryz.underlying3 rfl rfl (by rfl)) ?_
  refine l_q rfl rfl rfl (q_neq rfl rfl rfl) ?_
  refine l_nil ?_
  refine n_then ?_
  refine t_cond rfl (fun hc0 => ?_) (fun hc0 => ?_)
  · skip
    refine t_seq ?_
    refine t_region ?_
    refine l_q rfl rfl rfl (q_move rfl rfl) ?_
    refine l_q rfl rfl rfl (q_load_rowA rfl Tryz.underlying29 ti29 rfl rfl rfl) ?_
    refine l_e rfl rfl rfl (eff_call rfl rfl rfl Tryz.func41 (by kernel_rfl) rfl (fun w hw => hS b c 0 p vb L _ _ _ w hp hbo (hn.mono hLe) (by omega) hl (picks_st2 (row b 72 [.pointer p, vb, nilS', .bool false]) (tvec 5 1 byC vb L) hw))) ?_
    rintro _ J _ ⟨rfl, hJ, p, vb, L, hp, hbo, hL12, rfl⟩
    have hLe := hLe.trans hJ
    have hl12 := congrArg List.length hL12
    simp only [List.length_append, List.length_cons, List.length_nil, List.flatten_cons, List.flatten_nil] at hl12
    refine l_nil ?_
    refine n_then ?_
    refine t_ret ?_
    refine n_ret_then ?_
    refine n_ret0 rfl (fun w' hw => ?_)
    -- leaf 0
    exact ⟨_, rfl, J, _, ⟨rfl, hLe, p, vb, L, hp, hbo, by rw [hL12] <;> simp [List.append_assoc], rfl⟩, subC_st hw⟩
  · skip
    exfalso
    have h9 := of_decide_eq_false hc0
    omega
set_option maxRecDepth 10000 in
theorem show_calls (n : Nd) (out : List UInt8) (m nx nx2 : Nat) (h5 : n.kind ≠ 5) (hS : ShowC n out m) (hm : m ≤ 900) (hlen : out.length + 1 ≤ 65536) (hf : firstP' (out ++ [10]) 0 = ⟨n, true, nx, 0, 0⟩) (hf2 : firstP' (out ++ [10]) nx = ⟨nd0, false, nx2, 0, 0⟩) (hN : NoR n) (c : NC) (I : Look) (F : List HA) (w0 w : World) (hG : EnvI I) (hn : NdAt I n c) (hw0 : St w0 I F w) : Calls Tryz.prog 15 (#[.agg (ncC c).toArray]) w (fun e w' => ∃ v, e = .returned v ∧ ∃ I' H', (Le I I' ∧ F = H' ∧ v = .tuple #[str (out ++ [10]), .int .i64 0]) ∧ St w I' H' w') := by
  have hLe := Le.refl I
  have hone := hn.ones
  have hp : (none : Option Addr) = none ∨ none = some (⟨0, 0, none⟩ : Addr) := .inl rfl
  refine enter (args := [.agg (ncC c).toArray]) Tryz.func15 rfl Tryz.ntmps15 rfl (hw0.self) ?_
  refine t_seq ?_
  refine t_region ?_
  refine l_e rfl rfl rfl (e_box rfl rfl rfl) ?_
  rintro _ _ _ ⟨b1, rfl, rfl, rfl⟩
  refine l_heap (H' := row b1 29 (ncC c) :: _) ?_ (fun _ h => h)
  refine l_q rfl rfl rfl (q_assign rfl rfl) ?_
  refine l_q rfl rfl rfl (q_assign rfl rfl) ?_
  refine l_nil ?_
  refine n_then ?_
  refine t_seq ?_
  refine t_region ?_
  refine l_q rfl rfl rfl (q_build (pl := [(_, _), (_, _), (_, _)]) (cs := ([.pointer none, nilS', nilS', .bool false]).toArray) rfl Tryz.underlying72 ti72 ⟨rfl, ⟨_, _, ti69⟩, rfl, ⟨_, _, ti70⟩, rfl, ⟨_, _, ti4⟩, trivial⟩ rfl rfl) ?_
  refine l_e rfl rfl rfl (e_box rfl rfl rfl) ?_
  rintro _ _ _ ⟨b17, rfl, rfl, rfl⟩
  refine l_heap (H' := tvec 5 1 byC (.slice none 0 0) [] :: row b17 72 [.pointer none, nilS', nilS', .bool false] :: _) ?_ (fun _ h => st_nilT 5 1 byC h)
  refine l_q rfl rfl rfl (q_assign rfl rfl) ?_
  refine l_nil ?_
  refine n_then ?_
  refine t_seq ?_
  refine t_region ?_
  refine l_q rfl rfl rfl (q_move rfl rfl) ?_
  refine l_q rfl rfl rfl (q_load_rowA rfl Tryz.underlying29 ti29 rfl rfl rfl) ?_
  refine l_e rfl rfl rfl (eff_call rfl rfl rfl Tryz.func27 (by kernel_rfl) rfl (fun w hw => whole_of n out m h5 hS hm b17 c none nilS' [] _ _ _ w (.inl rfl) (.inl rfl) (hn.mono hLe) (by simp only [List.length_nil]; omega) (picks_st2 (row b17 72 [.pointer none, nilS', nilS', .bool false]) (tvec 5 1 byC nilS' []) hw))) ?_
  rintro _ J _ ⟨rfl, hJ, p, vb, L, hp, hbo, hL20, rfl⟩
  have hLe := hLe.trans hJ
  have hl20 := congrArg List.length hL20
  simp only [List.length_append, List.length_cons, List.length_nil, List.flatten_cons, List.flatten_nil] at hl20
  refine l_nil ?_
  refine n_then ?_
  refine t_seq ?_
  refine t_region ?_
  refine l_q rfl rfl rfl (q_move rfl rfl) ?_
  refine l_e rfl rfl rfl (eff_call rfl rfl rfl Tryz.func28 (by kernel_rfl) rfl (fun w hw => wline_calls b17 p vb L _ _ _ w hp hbo (by omega) (picks_st2 (row b17 72 [.pointer p, vb, nilS', .bool false]) (tvec 5 1 byC vb L) hw))) ?_
  rintro _ J _ ⟨rfl, hJ, p, vb, L, hp, hbo, hL22, rfl⟩
  have hLe := hLe.trans hJ
  have hl22 := congrArg List.length hL22
  simp only [List.length_append, List.length_cons, List.length_nil, List.flatten_cons, List.flatten_nil] at hl22
  refine l_nil ?_
  refine n_then ?_
  refine t_seq ?_
  refine t_region ?_
  refine l_q rfl rfl rfl (q_move rfl rfl) ?_
  refine l_q rfl rfl rfl (q_nilCheck rfl rfl) ?_
  refine l_q rfl rfl rfl (q_fieldAddr rfl Tryz.underlying72 rfl rfl ti69 rfl rfl) ?_
  refine l_e rfl rfl rfl (eff_call rfl rfl rfl Tryz.func29 (by kernel_rfl) rfl (fun w hw => wbuilderString_calls b17 (.pointer p) vb L _ _ _ w hbo (by omega) (picks_st2 (row b17 72 [.pointer p, vb, nilS', .bool false]) (tvec 5 1 byC vb L) hw))) ?_
  rintro _ _ _ ⟨rfl, rfl, rfl⟩
  have hLo : L = out ++ [10] := by rw [hL22, hL20]; simp
  rw [hLo]
  refine l_q rfl rfl rfl (q_assign rfl rfl) ?_
  refine l_nil ?_
  refine n_then ?_
  refine t_seq ?_
  refine t_seq ?_
  refine t_qreg ?_
  refine s_q rfl rfl rfl (q_move rfl rfl) ?_
  refine s_q rfl rfl rfl (q_nilCheck rfl rfl) ?_
  refine s_q rfl rfl rfl (q_fieldAddr rfl Tryz.underlying72 rfl rfl ti4 rfl rfl) ?_
  refine s_q rfl rfl rfl (q_load_row rfl Tryz.underlying4 rfl rfl (by rfl)) ?_
  refine s_q rfl rfl rfl (q_move rfl rfl) ?_
  refine s_or2 3 4 31 35 34 _ _ rfl rfl rfl rfl rfl rfl (fun h35 => by
      try simp at h35
      refine s_g rfl rfl rfl rfl rfl rfl (q_move rfl rfl) ?_
      refine s_g rfl rfl rfl rfl rfl rfl (q_len_str rfl Tryz.underlying9 rfl) ?_
      refine s_g rfl rfl rfl rfl rfl rfl (q_gtr rfl rfl rfl) ?_
      exact s_val rfl
    ) (wanted_n rfl) rfl rfl rfl ?_
  refine s_done ?_
  refine n_then ?_
  refine t_cond rfl (fun hc0 => ?_) (fun hc0 => ?_)
  · skip
    exfalso
    have h9 := hc0
    simp at h9
    omega
  · skip
    refine t_skip ?_
    refine n_then ?_
    refine t_seq ?_
    refine t_region ?_
    refine l_q rfl rfl rfl (q_move rfl rfl) ?_
    refine l_e rfl rfl rfl (eff_call rfl rfl rfl Tryz.func9 (by kernel_rfl) rfl (fun w hw => first_calls (out ++ [10]) (by rw [List.length_append, List.length_singleton]; omega) (0) _ _ _ w (hG.mono hLe) hw)) ?_
    rintro _ J38 _ ⟨hJ38, rfl, c38, rfl, hn38⟩
    have hLe0 := hLe
    have hLe := hLe.trans hJ38
    rw [hf] at hn38 ⊢
    dsimp only at hn38 ⊢
    refine l_q rfl rfl rfl (q_move rfl rfl) ?_
    refine l_q rfl rfl rfl (q_extract rfl rfl rfl) ?_
    refine l_q rfl rfl rfl (q_extract rfl rfl rfl) ?_
    refine l_q rfl rfl rfl (q_extract rfl rfl rfl) ?_
    refine l_q rfl rfl rfl (q_extract rfl rfl rfl) ?_
    refine l_q rfl rfl rfl (q_extract rfl rfl rfl) ?_
    refine l_e rfl rfl rfl (e_alloc rfl ti29 rfl) ?_
    rintro _ _ _ ⟨b6, rfl, rfl, rfl⟩
    refine l_e0 rfl rfl ((by first | exact e_store_all rfl ti29 rfl rfl rfl (by first | exact chC_ones _ | exact pcC_ones _ | exact hn38.ones | exact hn59.ones | simp [Value.oneCell', str, u8]) rfl | exact e_store_agg rfl ti29 rfl rfl rfl (by first | exact chC_ones _ | exact pcC_ones _ | exact hn38.ones | exact hn59.ones | simp [Value.oneCell', str, u8]) rfl)) ?_
    rintro _ _ _ ⟨rfl, rfl⟩
    refine l_heap (H' := row b6 29 (ncC c38) :: _) ?_ (fun _ h => h)
    refine l_q rfl rfl rfl (q_assign rfl rfl) ?_
    refine l_q rfl rfl rfl (q_assign rfl rfl) ?_
    refine l_q rfl rfl rfl (q_assign rfl rfl) ?_
    refine l_q rfl rfl rfl (q_assign rfl rfl) ?_
    refine l_nil ?_
    refine n_then ?_
    refine t_seq ?_
    refine t_seq ?_
    refine t_qreg ?_
    refine s_q rfl rfl rfl (q_move rfl rfl) ?_
    refine s_q rfl rfl rfl (q_not rfl rfl) ?_
    refine s_q rfl rfl rfl (q_move rfl rfl) ?_
    refine s_or2 2 2 46 49 48 _ _ rfl rfl rfl rfl rfl rfl (fun h49 => by
        try simp at h49
        refine s_g rfl rfl rfl rfl rfl rfl (q_move rfl rfl) ?_
        refine s_g rfl rfl rfl rfl rfl rfl (q_neq rfl rfl rfl) ?_
        exact s_val rfl
      ) (wanted_n rfl) rfl rfl rfl ?_
    refine s_q rfl rfl rfl (q_move rfl rfl) ?_
    refine s_or2 4 6 50 55 54 _ _ rfl rfl rfl rfl rfl rfl (fun h55 => by
        try simp at h55
        refine s_g rfl rfl rfl rfl rfl rfl (q_load_rowA rfl Tryz.underlying29 ti29 rfl rfl rfl) ?_
        refine s_g rfl rfl rfl rfl rfl rfl (q_load_rowA rfl Tryz.underlying29 ti29 rfl rfl rfl) ?_
        refine s_g rfl rfl rfl rfl rfl rfl (quiet_call rfl rfl rfl Tryz.func30 (by kernel_rfl) rfl ((fun w hw => alike_pure _ n c c38 w (Nat.le_refl _) ((hn.mono (hLe0.trans hJ38)).mono hw.le) (hn38.mono hw.le) hN))) ?_
        refine s_g rfl rfl rfl rfl rfl rfl (q_not rfl rfl) ?_
        exact s_val rfl
      ) (wanted_n rfl) rfl rfl rfl ?_
    refine s_done ?_
    refine n_then ?_
    refine t_cond rfl (fun hc1 => ?_) (fun hc1 => ?_)
    · skip
      try simp at hc1
    · skip
      try simp at hc1
      refine t_skip ?_
      refine n_then ?_
      refine t_seq ?_
      refine t_seq ?_
      refine t_region ?_
      refine l_q rfl rfl rfl (q_move rfl rfl) ?_
      refine l_q rfl rfl rfl (q_move rfl rfl) ?_
      refine l_e rfl rfl rfl (eff_call rfl rfl rfl Tryz.func9 (by kernel_rfl) rfl (fun w hw => first_calls (out ++ [10]) (by rw [List.length_append, List.length_singleton]; omega) ((nx : Int)) _ _ _ w (hG.mono hLe) hw)) ?_
      rintro _ J59 _ ⟨hJ59, rfl, c59, rfl, hn59⟩
      have hLe := hLe.trans hJ59
      rw [hf2] at hn59 ⊢
      dsimp only at hn59 ⊢
      refine l_q rfl rfl rfl (q_move rfl rfl) ?_
      refine l_q rfl rfl rfl (q_extract rfl rfl rfl) ?_
      refine l_q rfl rfl rfl (q_extract rfl rfl rfl) ?_
      refine l_q rfl rfl rfl (q_extract rfl rfl rfl) ?_
      refine l_q rfl rfl rfl (q_extract rfl rfl rfl) ?_
      refine l_q rfl rfl rfl (q_extract rfl rfl rfl) ?_
      refine l_e rfl rfl rfl (e_alloc rfl ti29 rfl) ?_
      rintro _ _ _ ⟨b11, rfl, rfl, rfl⟩
      refine l_e0 rfl rfl ((by first | exact e_store_all rfl ti29 rfl rfl rfl (by first | exact chC_ones _ | exact pcC_ones _ | exact hn38.ones | exact hn59.ones | simp [Value.oneCell', str, u8]) rfl | exact e_store_agg rfl ti29 rfl rfl rfl (by first | exact chC_ones _ | exact pcC_ones _ | exact hn38.ones | exact hn59.ones | simp [Value.oneCell', str, u8]) rfl)) ?_
      rintro _ _ _ ⟨rfl, rfl⟩
      refine l_heap (H' := row b11 29 (ncC c59) :: _) ?_ (fun _ h => h)
      refine l_q rfl rfl rfl (q_assign rfl rfl) ?_
      refine l_q rfl rfl rfl (q_assign rfl rfl) ?_
      refine l_q rfl rfl rfl (q_assign rfl rfl) ?_
      refine l_q rfl rfl rfl (q_assign rfl rfl) ?_
      refine l_nil ?_
      refine n_then ?_
      refine t_seq ?_
      refine t_qreg ?_
      refine s_q rfl rfl rfl (q_move rfl rfl) ?_
      refine s_q rfl rfl rfl (q_move rfl rfl) ?_
      refine s_or2 2 1 66 69 68 _ _ rfl rfl rfl rfl rfl rfl (fun h69 => by
          try simp at h69
          refine s_g rfl rfl rfl rfl rfl rfl (q_move rfl rfl) ?_
          refine s_g rfl rfl rfl rfl rfl rfl (q_neq rfl rfl rfl) ?_
          exact s_val rfl
        ) (wanted_n rfl) rfl rfl rfl ?_
      refine s_done ?_
      refine n_then ?_
      refine t_cond rfl (fun hc2 => ?_) (fun hc2 => ?_)
      · skip
        try simp at hc2
      · skip
        try simp at hc2
        refine t_skip ?_
        refine n_then ?_
        refine t_seq ?_
        refine t_region ?_
        refine l_q rfl rfl rfl (q_move rfl rfl) ?_
        refine l_q rfl rfl rfl (q_assign rfl rfl) ?_
        refine l_q rfl rfl rfl (q_assign rfl rfl) ?_
        refine l_nil ?_
        refine n_then ?_
        refine t_ret ?_
        refine n_ret2 rfl rfl rfl (fun w' hw => ?_)
        -- leaf 0
        exact ⟨_, rfl, J59, _, ⟨hLe, rfl, rfl⟩, subC_st hw⟩
end Go.Tri

/-
  The statement: ShowPlain.
-/
namespace Go.Tri
open Go.Proofs Go.RowKit
set_option maxRecDepth 100000
def awakeS7 : List UInt8 := [105, 102, 32, 97, 59, 116, 104, 101, 110, 32, 98, 59, 102, 105]
def awakeN7 : Nd := ndK 9 [smpW [[97]], smpW [[98]]]
def awakeO7 : List UInt8 := ifT [97] [98] ++ [102, 105]
theorem aw7_1 : firstP' awakeS7 0 = ⟨awakeN7, true, 14, 0, 0⟩ := by kernel_rfl
theorem aw7_2 : firstP' (awakeO7 ++ [10]) 0 = ⟨awakeN7, true, 15, 0, 0⟩ := by kernel_rfl
theorem aw7_3 : firstP' (awakeO7 ++ [10]) (15 : Nat) = ⟨nd0, false, 15, 0, 0⟩ := by kernel_rfl
theorem aw7_S : ShowC awakeN7 awakeO7 (0 + 1) := showComp 9 (by decide) _ _ 0 (comp9 _ _ [97] [98] 0 (body_of _ _ 0 (by decide) (showWords [[97]] (by simp) (by decide))) (body_of _ _ 0 (by decide) (showWords [[98]] (by simp) (by decide))))
theorem noR_smp (ws : List (List UInt8)) (h : ws.length ≤ 1000000) : NoR (.mk 1 false false [] ws [] []) := by
  unfold NoR
  exact ⟨rfl, h, Nat.zero_le _, by unfold NoRs; trivial⟩
theorem noR_one (k : Nat) (nm : List UInt8) {n : Nd} (h : NoR n) : NoR (.mk k false false nm [] [] [n]) := by
  unfold NoR
  exact ⟨rfl, Nat.zero_le _, by simp, by unfold NoRs; exact ⟨h, by unfold NoRs; trivial⟩⟩
theorem aw7_R : NoR awakeN7 := by
  unfold awakeN7 ndK NoR
  refine ⟨rfl, Nat.zero_le _, by decide, ?_⟩
  unfold NoRs
  refine ⟨noR_smp _ (by decide), ?_⟩
  unfold NoRs
  exact ⟨noR_smp _ (by decide), by unfold NoRs; trivial⟩
def pqC (p : UInt8 × UInt8) : List Value := [str [p.1], str [p.2]]
theorem pqC_ones (p : UInt8 × UInt8) : ∀ u ∈ pqC p, u.oneCell' = true := fun u hu => by
  simp only [pqC, List.mem_cons, List.not_mem_nil, or_false] at hu
  rcases hu with rfl | rfl <;> rfl
def pqs : List (UInt8 × UInt8) := [(123, 125), (40, 41)]
theorem pq_cases {i : Nat} (h : i < 2) : ∃ (K : Nat) (ob cb : UInt8) (ko kc : Key), (pqs.map pqC)[i]? = some (pqC (ob, cb)) ∧ SgB K ob cb ko kc := by
  match i, h with
  | 0, _ => exact ⟨8, 123, 125, _, _, rfl, ⟨.inr ⟨rfl, rfl, rfl, rfl, rfl⟩⟩⟩
  | 1, _ => exact ⟨7, 40, 41, _, _, rfl, ⟨.inl ⟨rfl, rfl, rfl, rfl, rfl⟩⟩⟩
theorem spS_snoc {l : List (List UInt8)} {k : Nat} (h : k < l.length) : spS (l.take (k + 1)) = spS (l.take k) ++ ([32] ++ quoteB (nth l k [])) := by
  unfold spS
  rw [take_nth [] h, List.flatMap_append]; simp
theorem spS_mem {l : List (List UInt8)} {t : List UInt8} (h : t ∈ l) : (quoteB t).length ≤ (spS l).length := by
  have : (quoteB t).length ≤ (l.flatMap fun t => [32] ++ quoteB t).length := by
    induction l with
    | nil => cases h
    | cons u l ih =>
      rw [List.flatMap_cons, List.length_append, List.length_append]
      rcases List.mem_cons.1 h with rfl | h
      · omega
      · have := ih h
        omega
  unfold spS
  rw [List.length_append]
  omega
def outG (ob cb : UInt8) (l : List (List UInt8)) : List UInt8 := [ob, 10] ++ (spS l ++ [10]) ++ [cb]
theorem outG_B (ob cb : UInt8) (l : List (List UInt8)) : outG ob cb l ++ [10] = gB false ob cb l := by simp [outG, gB, preS]
theorem outF_B (ob cb : UInt8) (l : List (List UInt8)) : ([102] ++ [40, 41, 32] ++ outG ob cb l) ++ [10] = gB true ob cb l := by simp [outG, gB, preS]
theorem txt_A (ob cb : UInt8) (l : List (List UInt8)) : [ob] ++ [32] ++ spS l ++ [10] ++ [cb] = gA false ob cb l := by simp [gA, preS]
theorem txt_F (ob cb : UInt8) (l : List (List UInt8)) : [102, 40, 41, 32] ++ [ob] ++ [32] ++ spS l ++ [10] ++ [cb] = gA true ob cb l := by simp [gA, preS]
theorem gA_len (fn : Bool) (ob cb : UInt8) (l : List (List UInt8)) : (gA fn ob cb l).length ≤ (spS l).length + 8 := by
  unfold gA preS
  cases fn <;> simp only [List.length_append, List.length_cons, List.length_nil, if_pos, if_neg, Bool.false_eq_true] <;> simp <;> omega
theorem gB_len (fn : Bool) (ob cb : UInt8) (l : List (List UInt8)) : (gB fn ob cb l).length ≤ (spS l).length + 9 := by
  unfold gB preS
  cases fn <;> simp only [List.length_append, List.length_cons, List.length_nil, if_pos, if_neg, Bool.false_eq_true] <;> simp <;> omega
theorem outG_len (ob cb : UInt8) (l : List (List UInt8)) : (outG ob cb l).length = (spS l).length + 4 := by
  unfold outG
  simp only [List.length_append, List.length_cons, List.length_nil]; omega
section
variable {K : Nat} {ob cb : UInt8} {ko kc : Key} {l : List (List UInt8)}
theorem compK (hK : SgB K ob cb ko kc) {k : Nd} {out : List UInt8} {m : Nat} (hB : BodyC k out m) : CompC (ndK K [k]) ([ob, 10] ++ (out ++ [10]) ++ [cb]) m := by
  obtain ⟨rfl, rfl, rfl, -, -⟩ | ⟨rfl, rfl, rfl, -, -⟩ := hK.all
  · exact comp7 k out m hB
  · exact comp8 k out m hB
theorem SgB.k (hK : SgB K ob cb ko kc) : (K = 7 ∨ K = 8 ∨ K = 9) ∧ K ≠ 5 := by
  obtain ⟨rfl, -⟩ | ⟨rfl, -⟩ := hK.all <;> decide
theorem show_sp (h : l.length ≤ 30) : ShowC (smpQ l) (spS l) 0 := by
  have := showWords (wsQ l) (by simp [wsQ]) (by simp [wsQ]; omega)
  rw [join_sp] at this
  exact this
theorem show_G (hK : SgB K ob cb ko kc) (h : l.length ≤ 30) : ShowC (nodF false (ndK K [smpQ l])) (outG ob cb l) (0 + 1) := showComp K hK.k.1 _ _ 0 (compK hK (body_of _ _ 0 (by show ¬ (1 : Nat) = 5; decide) (show_sp h)))
theorem show_F (hK : SgB K ob cb ko kc) (h : l.length ≤ 30) : ShowC (nodF true (ndK K [smpQ l])) ([102] ++ [40, 41, 32] ++ outG ob cb l) (0 + 1 + 1) := showFn [102] _ _ _ (show_G hK h)
theorem smpQ_R (h : l.length ≤ 30) : NoR (smpQ l) := noR_smp _ (by simp [wsQ]; omega)
end
set_option maxRecDepth 10000 in
theorem awake7_pure (w : World) (hG : EnvI (look w)) : Pure Tryz.prog 13 [] w (.bool true) := by
  refine enter Tryz.func13 rfl Tryz.ntmps13 rfl (St.start w (look w) (Le.refl _)) ?_
  refine t_seq ?_
  refine t_region ?_
  refine l_q rfl rfl rfl (q_assign rfl rfl) ?_
  refine l_nil ?_
  refine n_then ?_
  refine t_seq ?_
  refine t_region ?_
  refine l_e rfl rfl rfl (eff_call rfl rfl rfl Tryz.func9 (by kernel_rfl) rfl (fun w hw => first_calls (awakeS7) (by decide) (0) _ _ _ w (hG) hw)) ?_
  rintro _ J9 _ ⟨hJ9, rfl, c9, rfl, hn9⟩
  rw [aw7_1] at hn9 ⊢
  dsimp only at hn9 ⊢
  refine l_q rfl rfl rfl (q_move rfl rfl) ?_
  refine l_q rfl rfl rfl (q_extract rfl rfl rfl) ?_
  refine l_q rfl rfl rfl (q_extract rfl rfl rfl) ?_
  refine l_q rfl rfl rfl (q_extract rfl rfl rfl) ?_
  refine l_q rfl rfl rfl (q_extract rfl rfl rfl) ?_
  refine l_q rfl rfl rfl (q_extract rfl rfl rfl) ?_
  refine l_e rfl rfl rfl (e_alloc rfl ti29 rfl) ?_
  rintro _ _ _ ⟨b1, rfl, rfl, rfl⟩
  refine l_e0 rfl rfl ((by first | exact e_store_all rfl ti29 rfl rfl rfl (by first | exact chC_ones _ | exact pcC_ones _ | exact hn9.ones | simp [Value.oneCell', str, u8]) rfl | exact e_store_agg rfl ti29 rfl rfl rfl (by first | exact chC_ones _ | exact pcC_ones _ | exact hn9.ones | simp [Value.oneCell', str, u8]) rfl)) ?_
  rintro _ _ _ ⟨rfl, rfl⟩
  refine l_heap (H' := row b1 29 (ncC c9) :: _) ?_ (fun _ h => h)
  refine l_q rfl rfl rfl (q_assign rfl rfl) ?_
  refine l_q rfl rfl rfl (q_assign rfl rfl) ?_
  refine l_q rfl rfl rfl (q_assign rfl rfl) ?_
  refine l_q rfl rfl rfl (q_assign rfl rfl) ?_
  refine l_nil ?_
  refine n_then ?_
  refine t_seq ?_
  refine t_region ?_
  refine l_q rfl rfl rfl (q_load_rowA rfl Tryz.underlying29 ti29 rfl rfl rfl) ?_
  refine l_e rfl rfl rfl (eff_call rfl rfl rfl Tryz.func15 (by kernel_rfl) rfl (fun w hw => show_calls awakeN7 awakeO7 (0 + 1) 15 15 (by decide) aw7_S (by omega) (by decide) aw7_2 aw7_3 aw7_R c9 _ _ _ w (hG.mono hJ9) hn9 hw)) ?_
  rintro _ J17 _ ⟨hJ17, rfl, rfl⟩
  refine l_q rfl rfl rfl (q_move rfl rfl) ?_
  refine l_q rfl rfl rfl (q_extract rfl rfl rfl) ?_
  refine l_q rfl rfl rfl (q_extract rfl rfl rfl) ?_
  refine l_q rfl rfl rfl (q_assign rfl rfl) ?_
  refine l_q rfl rfl rfl (q_assign rfl rfl) ?_
  refine l_nil ?_
  refine n_then ?_
  refine t_seq ?_
  refine t_qreg ?_
  refine s_q rfl rfl rfl (q_move rfl rfl) ?_
  refine s_q rfl rfl rfl (q_eql rfl rfl rfl) ?_
  refine s_q rfl rfl rfl (q_move rfl rfl) ?_
  refine s_and2 2 2 22 25 24 _ _ rfl rfl rfl rfl rfl rfl (fun h25 => by
      try simp at h25
      refine s_g rfl rfl rfl rfl rfl rfl (q_move rfl rfl) ?_
      refine s_g rfl rfl rfl rfl rfl rfl (q_eql rfl rfl rfl) ?_
      exact s_val rfl
    ) (wanted_n rfl) rfl rfl rfl ?_
  refine s_q rfl rfl rfl (q_move rfl rfl) ?_
  refine s_and2 2 6 26 29 28 _ _ rfl rfl rfl rfl rfl rfl (fun h29 => by
      try simp at h29
      refine s_g rfl rfl rfl rfl rfl rfl (q_move rfl rfl) ?_
      refine s_g rfl rfl rfl rfl rfl rfl (q_eql_str rfl rfl rfl) ?_
      exact s_val rfl
    ) (wanted_n rfl) rfl rfl rfl ?_
  refine s_q rfl rfl rfl (q_assign rfl rfl) ?_
  refine s_done ?_
  refine n_then ?_
  refine t_ret ?_
  refine n_ret1 rfl rfl (fun w' hw => ?_)
  -- leaf 0
  exact ⟨rfl, (hw.less (hJ9.trans hJ17)).below⟩
set_option maxRecDepth 10000 in
set_option maxHeartbeats 1000000 in
theorem showPlain_pure (vl : Value) (l : List (List UInt8)) (w : World) (hll : l.length ≤ 1048576) (htl : totS l ≤ 1048576) (hv : Sl (look w) 1 vl (l.map stC)) (hG : EnvI (look w)) : Pure Tryz.prog 7 [vl] w (.bool true) := by
  refine enter Tryz.func7 rfl Tryz.ntmps7 rfl (St.start w (look w) (Le.refl _)) ?_
  refine t_seq ?_
  refine t_region ?_
  refine l_q rfl rfl rfl (q_assign rfl rfl) ?_
  refine l_nil ?_
  refine n_then ?_
  refine t_seq ?_
  refine t_seq ?_
  refine t_region ?_
  refine l_q rfl rfl rfl (quiet_call rfl rfl rfl Tryz.func13 (by kernel_rfl) rfl ((fun w hw => awake7_pure w (hG.mono hw.le)))) ?_
  refine l_q rfl rfl rfl (q_not rfl rfl) ?_
  refine l_nil ?_
  refine n_then ?_
  refine t_cond rfl (fun hc0 => ?_) (fun hc0 => ?_)
  · skip
    try simp at hc0
  · skip
    try simp at hc0
    refine t_skip ?_
    refine n_then ?_
    refine t_seq ?_
    refine t_seq ?_
    refine t_qreg ?_
    refine s_q rfl rfl rfl (q_move rfl rfl) ?_
    refine s_q rfl rfl rfl ((by first | exact q_lenV rfl Tryz.underlying25 rfl | exact q_len rfl Tryz.underlying25 rfl (Sl.lenOf hv (List.length_map _)) | exact q_len rfl Tryz.underlying25 rfl (Sl.lenOf (n := 2) hvf rfl))) ?_
    refine s_q rfl rfl rfl (q_eql rfl rfl rfl) ?_
    refine s_q rfl rfl rfl (q_move rfl rfl) ?_
    refine s_or2 3 3 33 37 36 _ _ rfl rfl rfl rfl rfl rfl (fun h37 => by
        try simp at h37
        refine s_g rfl rfl rfl rfl rfl rfl (q_move rfl rfl) ?_
        refine s_g rfl rfl rfl rfl rfl rfl ((by first | exact q_lenV rfl Tryz.underlying25 rfl | exact q_len rfl Tryz.underlying25 rfl (Sl.lenOf hv (List.length_map _)) | exact q_len rfl Tryz.underlying25 rfl (Sl.lenOf (n := 2) hvf rfl))) ?_
        refine s_g rfl rfl rfl rfl rfl rfl (q_gtr rfl rfl rfl) ?_
        exact s_val rfl
      ) (wanted_n rfl) rfl rfl rfl ?_
    refine s_done ?_
    refine n_then ?_
    refine t_cond rfl (fun hc1 => ?_) (fun hc1 => ?_)
    · skip
      refine t_seq ?_
      refine t_region ?_
      refine l_q rfl rfl rfl (q_assign rfl rfl) ?_
      refine l_nil ?_
      refine n_then ?_
      refine t_ret ?_
      refine n_ret_then ?_
      refine n_ret1 rfl rfl (fun w' hw => ?_)
      -- leaf 0
      exact ⟨rfl, hw.below⟩
    · skip
      have h1 := hc1
      rw [Bool.or_eq_false_iff, decide_eq_false_iff_not, decide_eq_false_iff_not] at h1
      have hl30 : l.length ≤ 30 := by omega
      refine t_skip ?_
      refine n_then ?_
      refine t_seq ?_
      refine t_region ?_
      refine l_q rfl rfl rfl (q_assign rfl rfl) ?_
      refine l_nil ?_
      refine n_then ?_
      refine t_seq ?_
      refine t_seq ?_
      refine t_region ?_
      refine l_q rfl rfl rfl (q_move rfl rfl) ?_
      refine l_q rfl rfl rfl ((by first | exact q_lenV rfl Tryz.underlying25 rfl | exact q_len rfl Tryz.underlying25 rfl (Sl.lenOf hv (List.length_map _)) | exact q_len rfl Tryz.underlying25 rfl (Sl.lenOf (n := 2) hvf rfl))) ?_
      refine l_q rfl rfl rfl (q_move rfl rfl) ?_
      refine l_nil ?_
      refine n_then ?_
      refine t_block ?_
      refine t_loopE (ι := Nat) (fun zz => zz ≤ l.length ∧ (spS (l.take zz)).length ≤ 2000) (fun zz => l.length - zz) (fun zz => [(40, .int .i64 (zz : Int)), (3, str (spS (l.take zz)))]) [(0, _), (29, _), (37, _), (38, _), (39, _)] (fun zz => look w) (fun zz => []) 0 ?_ (sub_cons rfl (sub_cons rfl sub_nil)) (sub_cons rfl (sub_cons rfl (sub_cons rfl (sub_cons rfl (sub_cons rfl sub_nil))))) (fun _ h => subC_st h) ?_
      · try dsimp only
        exact ⟨Nat.zero_le _, by rw [List.take_zero]; decide⟩
      rintro k ⟨hk, hsp⟩
      try dsimp only at *
      refine t_seq ?_
      refine t_region ?_
      refine l_q rfl rfl rfl (q_lss rfl rfl rfl) ?_
      refine l_nil ?_
      refine n_then ?_
      refine t_seq ?_
      refine t_cond rfl (fun hc2 => ?_) (fun hc2 => ?_)
      · skip
        try simp at hc2
        have hsn := spS_snoc (l := l) (k := k) (by omega)
        have hsl := congrArg List.length hsn
        simp only [List.length_append, List.length_cons, List.length_nil] at hsl
        have hqb := quoteB_len (nth l k [])
        have htm := totS_mem (nth_mem (l := l) (i := k) (d := []) (by omega))
        refine t_skip ?_
        refine n_then ?_
        refine t_seq ?_
        refine t_block ?_
        refine t_seq ?_
        refine t_region ?_
        refine l_q rfl rfl rfl ((by first | exact q_indexAddrVN rfl Tryz.underlying25 ti9 rfl rfl (by omega) | exact q_indexAddrN rfl Tryz.underlying25 ti9 rfl rfl (Sl.shape hv (List.length_map _)) (by omega) | exact q_indexAddrN rfl Tryz.underlying25 ti9 rfl rfl (Sl.shape (n := 2) (hvf.mono hLj) rfl) (by omega) | exact q_indexAddrV rfl Tryz.underlying25 ti9 rfl rfl (by omega) | exact q_indexAddr rfl Tryz.underlying25 ti9 rfl rfl (Sl.shape hv (List.length_map _)) (by omega) | exact q_indexAddr rfl Tryz.underlying25 ti9 rfl rfl (Sl.shape (n := 2) (hvf.mono hLj) rfl) (by omega))) ?_
        refine l_q rfl rfl rfl ((by first | exact q_load_row rfl Tryz.underlying9 rfl rfl (by rfl) | exact q_load rfl Tryz.underlying9 rfl rfl (rd_st (i := k) hv (by omega)))) ?_
        refine l_q rfl rfl rfl (q_assign rfl rfl) ?_
        refine l_nil ?_
        refine n_then ?_
        refine t_seq ?_
        refine t_region ?_
        refine l_q rfl rfl rfl (q_move rfl rfl) ?_
        refine l_q rfl rfl rfl (q_move rfl rfl) ?_
        refine l_q rfl rfl rfl (quiet_call rfl rfl rfl Tryz.func12 (by kernel_rfl) rfl ((fun w hw => quote_pure (nth l k []) w (by have := totS_mem (nth_mem (l := l) (i := k) (d := []) (by omega)); omega) (hG.mono hw.le)))) ?_
        refine l_q rfl rfl rfl (q_cat rfl rfl rfl (by first | omega | (simp only [List.length_append, List.length_cons, List.length_nil, List.length_take, List.length_drop]; omega))) ?_
        refine l_q rfl rfl rfl (q_cat rfl rfl rfl (by first | omega | (simp only [List.length_append, List.length_cons, List.length_nil, List.length_take, List.length_drop]; omega))) ?_
        refine l_q rfl rfl rfl (q_assign rfl rfl) ?_
        refine l_nil ?_
        refine n_then ?_
        refine t_seq ?_
        refine t_region ?_
        refine l_q rfl rfl rfl (q_move rfl rfl) ?_
        refine l_q rfl rfl rfl (q_len_str rfl Tryz.underlying9 rfl) ?_
        refine l_q rfl rfl rfl (q_gtr rfl rfl rfl) ?_
        refine l_nil ?_
        refine n_then ?_
        refine t_cond rfl (fun hc3 => ?_) (fun hc3 => ?_)
        · skip
          try simp at hc3
          refine t_seq ?_
          refine t_region ?_
          refine l_q rfl rfl rfl (q_assign rfl rfl) ?_
          refine l_nil ?_
          refine n_then ?_
          refine t_ret ?_
          refine n_ret_block ?_
          refine n_ret_then ?_
          refine n_ret_then ?_
          refine n_ret_block ?_
          refine n_ret_then ?_
          refine n_ret1 rfl rfl (fun w' hw => ?_)
          -- leaf 1
          exact ⟨rfl, hw.below⟩
        · skip
          try simp at hc3
          refine t_skip ?_
          refine n_block ?_
          refine n_then ?_
          refine t_region ?_
          refine l_q rfl rfl rfl (q_add64 rfl rfl rfl (by omega)) ?_
          refine l_q rfl rfl rfl (q_move rfl rfl) ?_
          refine l_nil ?_
          refine n_roundE (k + 1) ?_ ?_ (sub_cons rfl (sub_cons' rfl (by rw [hsn]) (sub_nil))) (sub_cons rfl (sub_cons rfl (sub_cons rfl (sub_cons rfl (sub_cons rfl sub_nil))))) (fun _ h => by try dsimp only; exact subC_st h)
          · try dsimp only
            exact ⟨by omega, by omega⟩
          · try dsimp only
            omega
      · skip
        try simp at hc2
        rw [List.take_of_length_le (by omega)] at hsp ⊢
        have hq4 : ∀ t ∈ l, (quoteB t).length ≤ 4096 := fun t ht => by have := spS_mem ht; omega
        refine t_exit ?_
        refine n_exit_then ?_
        refine n_exit_then ?_
        refine n_exit_block ?_
        refine n_then ?_
        refine t_seq ?_
        refine t_region ?_
        refine l_q rfl rfl rfl (q_move rfl rfl) ?_
        refine l_q rfl rfl rfl (q_cat rfl rfl rfl (by first | omega | (simp only [List.length_append, List.length_cons, List.length_nil, List.length_take, List.length_drop]; omega))) ?_
        refine l_q rfl rfl rfl (q_cat rfl rfl rfl (by first | omega | (simp only [List.length_append, List.length_cons, List.length_nil, List.length_take, List.length_drop]; omega))) ?_
        refine l_e rfl rfl rfl (eff_call rfl rfl rfl Tryz.func9 (by kernel_rfl) rfl (fun w hw => first_calls ([32, 32] ++ spS l ++ [32]) (by simp only [List.length_append, List.length_cons, List.length_nil]; omega) (0) _ _ _ w (hG) hw)) ?_
        rintro _ J57 _ ⟨hJ57, rfl, c57, rfl, hn57⟩
        rw [first_tA hq4 (by simp only [List.length_append, List.length_cons, List.length_nil]; omega)] at hn57 ⊢
        dsimp only at hn57 ⊢
        have hsn1 : (spS l ++ [10]).length ≤ 65536 := by rw [List.length_append, List.length_singleton]; omega
        refine l_q rfl rfl rfl (q_move rfl rfl) ?_
        refine l_q rfl rfl rfl (q_extract rfl rfl rfl) ?_
        refine l_q rfl rfl rfl (q_extract rfl rfl rfl) ?_
        refine l_q rfl rfl rfl (q_extract rfl rfl rfl) ?_
        refine l_q rfl rfl rfl (q_extract rfl rfl rfl) ?_
        refine l_q rfl rfl rfl (q_extract rfl rfl rfl) ?_
        refine l_e rfl rfl rfl (e_alloc rfl ti29 rfl) ?_
        rintro _ _ _ ⟨b6, rfl, rfl, rfl⟩
        refine l_e0 rfl rfl ((by first | exact e_store_all rfl ti29 rfl rfl rfl (by first | exact chC_ones _ | exact pcC_ones _ | exact hn57.ones | exact hn98.ones | exact hn140.ones | exact pqC_ones _ | simp [Value.oneCell', str, u8]) rfl | exact e_store_agg rfl ti29 rfl rfl rfl (by first | exact chC_ones _ | exact pcC_ones _ | exact hn57.ones | exact hn98.ones | exact hn140.ones | exact pqC_ones _ | simp [Value.oneCell', str, u8]) rfl)) ?_
        rintro _ _ _ ⟨rfl, rfl⟩
        refine l_heap (H' := row b6 29 (ncC c57) :: _) ?_ (fun _ h => h)
        refine l_q rfl rfl rfl (q_assign rfl rfl) ?_
        refine l_q rfl rfl rfl (q_assign rfl rfl) ?_
        refine l_q rfl rfl rfl (q_assign rfl rfl) ?_
        refine l_q rfl rfl rfl (q_assign rfl rfl) ?_
        refine l_nil ?_
        refine n_then ?_
        refine t_seq ?_
        refine t_region ?_
        refine l_q rfl rfl rfl ((by first | exact q_load_rowA rfl Tryz.underlying29 ti29 rfl rfl rfl | exact q_load_agg rfl Tryz.underlying29 ti29 rfl rfl ((hvf.mono hLj).rds hpq))) ?_
        refine l_e rfl rfl rfl (eff_call rfl rfl rfl Tryz.func15 (by kernel_rfl) rfl (fun w hw => show_calls (smpQ l) (spS l) 0 (spS l ++ [10]).length (spS l ++ [10]).length (by show ¬ (1 : Nat) = 5; decide) (show_sp hl30) (by omega) (by omega) (first_sp hq4 hsn1) (first_none hsn1) (smpQ_R hl30) c57 _ _ _ w (hG.mono hJ57) hn57 hw)) ?_
        rintro _ J65 _ ⟨hJ65, rfl, rfl⟩
        refine l_q rfl rfl rfl (q_move rfl rfl) ?_
        refine l_q rfl rfl rfl (q_extract rfl rfl rfl) ?_
        refine l_q rfl rfl rfl (q_extract rfl rfl rfl) ?_
        refine l_q rfl rfl rfl (q_assign rfl rfl) ?_
        refine l_q rfl rfl rfl (q_assign rfl rfl) ?_
        refine l_nil ?_
        refine n_then ?_
        refine t_seq ?_
        refine t_seq ?_
        refine t_qreg ?_
        refine s_q rfl rfl rfl (q_move rfl rfl) ?_
        refine s_q rfl rfl rfl (q_neq rfl rfl rfl) ?_
        refine s_q rfl rfl rfl (q_move rfl rfl) ?_
        refine s_or2 2 2 70 73 72 _ _ rfl rfl rfl rfl rfl rfl (fun h73 => by
            try simp at h73
            refine s_g rfl rfl rfl rfl rfl rfl (q_move rfl rfl) ?_
            refine s_g rfl rfl rfl rfl rfl rfl (q_neq rfl rfl rfl) ?_
            exact s_val rfl
          ) (wanted_n rfl) rfl rfl rfl ?_
        refine s_q rfl rfl rfl (q_move rfl rfl) ?_
        refine s_or2 4 6 74 79 78 _ _ rfl rfl rfl rfl rfl rfl (fun h79 => by
            try simp at h79
            refine s_g rfl rfl rfl rfl rfl rfl (q_move rfl rfl) ?_
            refine s_g rfl rfl rfl rfl rfl rfl (q_move rfl rfl) ?_
            refine s_g rfl rfl rfl rfl rfl rfl (q_cat rfl rfl rfl (by first | omega | (simp only [List.length_append, List.length_cons, List.length_nil, List.length_take, List.length_drop]; omega))) ?_
            refine s_g rfl rfl rfl rfl rfl rfl (q_neq_str rfl rfl rfl) ?_
            exact s_val rfl
          ) (wanted_n rfl) rfl rfl rfl ?_
        refine s_done ?_
        refine n_then ?_
        refine t_cond rfl (fun hc4 => ?_) (fun hc4 => ?_)
        · skip
          exfalso
          simp at hc4
        · skip
          refine t_skip ?_
          refine n_then ?_
          refine t_seq ?_
          refine t_seq ?_
          refine t_region ?_
          refine l_q rfl rfl rfl (q_buildA (cs := (pqC (123, 125)).toArray) rfl Tryz.underlying23 ti23 ti9 rfl rfl) ?_
          refine l_q rfl rfl rfl (q_buildA (cs := (pqC (40, 41)).toArray) rfl Tryz.underlying23 ti23 ti9 rfl rfl) ?_
          refine l_e rfl rfl rfl (e_buildSliceN (vs := [_, _]) (css := [pqC (123, 125), pqC (40, 41)]) rfl Tryz.underlying24 ti23 rfl rfl rfl rfl (rfl) (by simp [pqC])) ?_
          rintro _ _ _ ⟨b82, rfl, rfl, rfl⟩
          refine l_heap (H' := tvec 23 2 pqC (.slice (some ⟨b82, 0, none⟩) 2 2) pqs :: _) ?_ (fun _ h => st_rowVec h rfl (by decide))
          refine l_freezeT (f := pqC) (l := pqs) (.slice (some ⟨b82, 0, none⟩) 2 2) (fun _ => rfl) (fun Jf hJf hvf => ?_)
          have hL0 := (hJ57.trans hJ65).trans hJf
          refine l_q rfl rfl rfl ((by first | exact q_lenV rfl Tryz.underlying24 rfl | exact q_len rfl Tryz.underlying24 rfl (Sl.lenOf hv (List.length_map _)) | exact q_len rfl Tryz.underlying24 rfl (Sl.lenOf (n := 2) hvf rfl))) ?_
          refine l_q rfl rfl rfl (q_move rfl rfl) ?_
          refine l_nil ?_
          refine n_then ?_
          refine t_block ?_
          refine t_loopE (ι := Nat × Look) (fun zz => zz.1 ≤ 2 ∧ Le Jf zz.2) (fun zz => 2 - zz.1) (fun zz => [(84, .int .i64 (zz.1 : Int))]) [(40, _), (3, _), (0, _), (29, _), (37, _), (38, _), (39, _), (41, _), (6, _), (10, _), (11, _), (12, _), (79, _), (82, _), (83, _)] (fun zz => zz.2) (fun zz => []) (0, Jf) ?_ (sub_cons rfl sub_nil) (sub_cons rfl (sub_cons rfl (sub_cons rfl (sub_cons rfl (sub_cons rfl (sub_cons rfl (sub_cons rfl (sub_cons rfl (sub_cons rfl (sub_cons rfl (sub_cons rfl (sub_cons rfl (sub_cons rfl (sub_cons rfl (sub_cons rfl sub_nil))))))))))))))) (fun _ h => subC_st h) ?_
          · try dsimp only
            exact ⟨Nat.zero_le _, Le.refl _⟩
          rintro ⟨i, Jj⟩ ⟨hi, hLj⟩
          try dsimp only at *
          refine t_seq ?_
          refine t_region ?_
          refine l_q rfl rfl rfl (q_lss rfl rfl rfl) ?_
          refine l_nil ?_
          refine n_then ?_
          refine t_seq ?_
          refine t_cond rfl (fun hc5 => ?_) (fun hc5 => ?_)
          · skip
            try simp at hc5
            have hol := fun ob cb => outG_len ob cb l
            obtain ⟨K, ob, cb, ko, kc, hpq, hK⟩ := pq_cases (i := i) (by omega)
            have hol := hol ob cb
            have hB0 : (gB false ob cb l).length ≤ 65536 := by have := gB_len false ob cb l; omega
            have hB1 : (gB true ob cb l).length ≤ 65536 := by have := gB_len true ob cb l; omega
            refine t_skip ?_
            refine n_then ?_
            refine t_seq ?_
            refine t_block ?_
            refine t_seq ?_
            refine t_region ?_
            refine l_q rfl rfl rfl ((by first | exact q_indexAddrVN rfl Tryz.underlying24 ti23 rfl rfl (by omega) | exact q_indexAddrN rfl Tryz.underlying24 ti23 rfl rfl (Sl.shape hv (List.length_map _)) (by omega) | exact q_indexAddrN rfl Tryz.underlying24 ti23 rfl rfl (Sl.shape (n := 2) (hvf.mono hLj) rfl) (by omega) | exact q_indexAddrV rfl Tryz.underlying24 ti23 rfl rfl (by omega) | exact q_indexAddr rfl Tryz.underlying24 ti23 rfl rfl (Sl.shape hv (List.length_map _)) (by omega) | exact q_indexAddr rfl Tryz.underlying24 ti23 rfl rfl (Sl.shape (n := 2) (hvf.mono hLj) rfl) (by omega))) ?_
            refine l_q rfl rfl rfl (q_load_aggA rfl Tryz.underlying23 ti23 rfl rfl ((hvf.mono hLj).rds hpq)) ?_
            refine l_e rfl rfl rfl (e_alloc rfl ti23 rfl) ?_
            rintro _ _ _ ⟨b14, rfl, rfl, rfl⟩
            refine l_e0 rfl rfl ((by first | exact e_store_all rfl ti23 rfl rfl rfl (by first | exact chC_ones _ | exact pcC_ones _ | exact hn57.ones | exact hn98.ones | exact hn140.ones | exact pqC_ones _ | simp [Value.oneCell', str, u8]) rfl | exact e_store_agg rfl ti23 rfl rfl rfl (by first | exact chC_ones _ | exact pcC_ones _ | exact hn57.ones | exact hn98.ones | exact hn140.ones | exact pqC_ones _ | simp [Value.oneCell', str, u8]) rfl)) ?_
            rintro _ _ _ ⟨rfl, rfl⟩
            refine l_heap (H' := row b14 23 (pqC (ob, cb)) :: _) ?_ (fun _ h => h)
            refine l_nil ?_
            refine n_then ?_
            refine t_seq ?_
            refine t_region ?_
            refine l_q rfl rfl rfl (q_indexAddr_arr rfl Tryz.underlying23 ti9 rfl rfl (by omega)) ?_
            refine l_q rfl rfl rfl ((by first | exact q_load_row rfl Tryz.underlying9 rfl rfl (by rfl) | exact q_load rfl Tryz.underlying9 rfl rfl (rd_st (i := k) hv (by omega)))) ?_
            refine l_q rfl rfl rfl (q_cat rfl rfl rfl (by first | omega | (simp only [List.length_append, List.length_cons, List.length_nil, List.length_take, List.length_drop]; omega))) ?_
            refine l_q rfl rfl rfl (q_move rfl rfl) ?_
            refine l_q rfl rfl rfl (q_cat rfl rfl rfl (by first | omega | (simp only [List.length_append, List.length_cons, List.length_nil, List.length_take, List.length_drop]; omega))) ?_
            refine l_q rfl rfl rfl (q_cat rfl rfl rfl (by first | omega | (simp only [List.length_append, List.length_cons, List.length_nil, List.length_take, List.length_drop]; omega))) ?_
            refine l_q rfl rfl rfl (q_indexAddr_arr rfl Tryz.underlying23 ti9 rfl rfl (by omega)) ?_
            refine l_q rfl rfl rfl ((by first | exact q_load_row rfl Tryz.underlying9 rfl rfl (by rfl) | exact q_load rfl Tryz.underlying9 rfl rfl (rd_st (i := k) hv (by omega)))) ?_
            refine l_q rfl rfl rfl (q_cat rfl rfl rfl (by first | omega | (simp only [List.length_append, List.length_cons, List.length_nil, List.length_take, List.length_drop]; omega))) ?_
            rw [txt_A]
            refine l_e rfl rfl rfl (eff_call rfl rfl rfl Tryz.func9 (by kernel_rfl) rfl (fun w hw => first_calls (gA false ob cb l) (by have := gA_len false ob cb l; omega) (0) _ _ _ w ((hG.mono hL0).mono hLj) hw)) ?_
            rintro _ J98 _ ⟨hJ98, rfl, c98, rfl, hn98⟩
            rw [first_gA false hK hq4 (by have := gA_len false ob cb l; omega)] at hn98 ⊢
            dsimp only at hn98 ⊢
            refine l_q rfl rfl rfl (q_move rfl rfl) ?_
            refine l_q rfl rfl rfl (q_extract rfl rfl rfl) ?_
            refine l_q rfl rfl rfl (q_extract rfl rfl rfl) ?_
            refine l_q rfl rfl rfl (q_extract rfl rfl rfl) ?_
            refine l_q rfl rfl rfl (q_extract rfl rfl rfl) ?_
            refine l_q rfl rfl rfl (q_extract rfl rfl rfl) ?_
            refine l_e rfl rfl rfl (e_alloc rfl ti29 rfl) ?_
            rintro _ _ _ ⟨b15, rfl, rfl, rfl⟩
            refine l_e0 rfl rfl ((by first | exact e_store_all rfl ti29 rfl rfl rfl (by first | exact chC_ones _ | exact pcC_ones _ | exact hn57.ones | exact hn98.ones | exact hn140.ones | exact pqC_ones _ | simp [Value.oneCell', str, u8]) rfl | exact e_store_agg rfl ti29 rfl rfl rfl (by first | exact chC_ones _ | exact pcC_ones _ | exact hn57.ones | exact hn98.ones | exact hn140.ones | exact pqC_ones _ | simp [Value.oneCell', str, u8]) rfl)) ?_
            rintro _ _ _ ⟨rfl, rfl⟩
            refine l_heap (H' := row b15 29 (ncC c98) :: _) ?_ (fun _ h => h)
            refine l_q rfl rfl rfl (q_assign rfl rfl) ?_
            refine l_q rfl rfl rfl (q_assign rfl rfl) ?_
            refine l_q rfl rfl rfl (q_assign rfl rfl) ?_
            refine l_q rfl rfl rfl (q_assign rfl rfl) ?_
            refine l_nil ?_
            refine n_then ?_
            refine t_seq ?_
            refine t_region ?_
            refine l_q rfl rfl rfl ((by first | exact q_load_rowA rfl Tryz.underlying29 ti29 rfl rfl rfl | exact q_load_agg rfl Tryz.underlying29 ti29 rfl rfl ((hvf.mono hLj).rds hpq))) ?_
            refine l_e rfl rfl rfl (eff_call rfl rfl rfl Tryz.func15 (by kernel_rfl) rfl (fun w hw => show_calls (nodF false (ndK K [smpQ l])) (outG ob cb l) (0 + 1) (gB false ob cb l).length (gB false ob cb l).length hK.k.2 (show_G hK hl30) (by omega) (by rw [outG_len]; omega) (by rw [outG_B]; exact first_gB false hK hq4 hB0) (by rw [outG_B]; exact first_none hB0) (noR_one K [] (smpQ_R hl30)) c98 _ _ _ w ((hG.mono hL0).mono (hLj.trans hJ98)) hn98 hw)) ?_
            rintro _ J106 _ ⟨hJ106, rfl, rfl⟩
            refine l_q rfl rfl rfl (q_move rfl rfl) ?_
            refine l_q rfl rfl rfl (q_extract rfl rfl rfl) ?_
            refine l_q rfl rfl rfl (q_extract rfl rfl rfl) ?_
            refine l_q rfl rfl rfl (q_assign rfl rfl) ?_
            refine l_q rfl rfl rfl (q_assign rfl rfl) ?_
            refine l_nil ?_
            refine n_then ?_
            refine t_seq ?_
            refine t_seq ?_
            refine t_qreg ?_
            refine s_q rfl rfl rfl (q_move rfl rfl) ?_
            refine s_q rfl rfl rfl (q_neq rfl rfl rfl) ?_
            refine s_q rfl rfl rfl (q_move rfl rfl) ?_
            refine s_or2 2 2 111 114 113 _ _ rfl rfl rfl rfl rfl rfl (fun h114 => by
                try simp at h114
                refine s_g rfl rfl rfl rfl rfl rfl (q_move rfl rfl) ?_
                refine s_g rfl rfl rfl rfl rfl rfl (q_neq rfl rfl rfl) ?_
                exact s_val rfl
              ) (wanted_n rfl) rfl rfl rfl ?_
            refine s_q rfl rfl rfl (q_move rfl rfl) ?_
            refine s_or2 12 6 115 128 127 _ _ rfl rfl rfl rfl rfl rfl (fun h128 => by
                try simp at h128
                refine s_g rfl rfl rfl rfl rfl rfl (q_move rfl rfl) ?_
                refine s_g rfl rfl rfl rfl rfl rfl (q_indexAddr_arr rfl Tryz.underlying23 ti9 rfl rfl (by omega)) ?_
                refine s_g rfl rfl rfl rfl rfl rfl ((by first | exact q_load_row rfl Tryz.underlying9 rfl rfl (by rfl) | exact q_load rfl Tryz.underlying9 rfl rfl (rd_st (i := k) hv (by omega)))) ?_
                refine s_g rfl rfl rfl rfl rfl rfl (q_cat rfl rfl rfl (by first | omega | (simp only [List.length_append, List.length_cons, List.length_nil, List.length_take, List.length_drop]; omega))) ?_
                refine s_g rfl rfl rfl rfl rfl rfl (q_move rfl rfl) ?_
                refine s_g rfl rfl rfl rfl rfl rfl (q_cat rfl rfl rfl (by first | omega | (simp only [List.length_append, List.length_cons, List.length_nil, List.length_take, List.length_drop]; omega))) ?_
                refine s_g rfl rfl rfl rfl rfl rfl (q_cat rfl rfl rfl (by first | omega | (simp only [List.length_append, List.length_cons, List.length_nil, List.length_take, List.length_drop]; omega))) ?_
                refine s_g rfl rfl rfl rfl rfl rfl (q_indexAddr_arr rfl Tryz.underlying23 ti9 rfl rfl (by omega)) ?_
                refine s_g rfl rfl rfl rfl rfl rfl ((by first | exact q_load_row rfl Tryz.underlying9 rfl rfl (by rfl) | exact q_load rfl Tryz.underlying9 rfl rfl (rd_st (i := k) hv (by omega)))) ?_
                refine s_g rfl rfl rfl rfl rfl rfl (q_cat rfl rfl rfl (by first | omega | (simp only [List.length_append, List.length_cons, List.length_nil, List.length_take, List.length_drop]; omega))) ?_
                refine s_g rfl rfl rfl rfl rfl rfl (q_cat rfl rfl rfl (by first | omega | (simp only [List.length_append, List.length_cons, List.length_nil, List.length_take, List.length_drop]; omega))) ?_
                refine s_g rfl rfl rfl rfl rfl rfl (q_neq_str rfl rfl rfl) ?_
                exact s_val rfl
              ) (wanted_n rfl) rfl rfl rfl ?_
            refine s_done ?_
            refine n_then ?_
            refine t_cond rfl (fun hc6 => ?_) (fun hc6 => ?_)
            · skip
              exfalso
              simp [outG] at hc6
            · skip
              refine t_skip ?_
              refine n_then ?_
              refine t_seq ?_
              refine t_region ?_
              refine l_q rfl rfl rfl (q_indexAddr_arr rfl Tryz.underlying23 ti9 rfl rfl (by omega)) ?_
              refine l_q rfl rfl rfl ((by first | exact q_load_row rfl Tryz.underlying9 rfl rfl (by rfl) | exact q_load rfl Tryz.underlying9 rfl rfl (rd_st (i := k) hv (by omega)))) ?_
              refine l_q rfl rfl rfl (q_cat rfl rfl rfl (by first | omega | (simp only [List.length_append, List.length_cons, List.length_nil, List.length_take, List.length_drop]; omega))) ?_
              refine l_q rfl rfl rfl (q_cat rfl rfl rfl (by first | omega | (simp only [List.length_append, List.length_cons, List.length_nil, List.length_take, List.length_drop]; omega))) ?_
              refine l_q rfl rfl rfl (q_move rfl rfl) ?_
              refine l_q rfl rfl rfl (q_cat rfl rfl rfl (by first | omega | (simp only [List.length_append, List.length_cons, List.length_nil, List.length_take, List.length_drop]; omega))) ?_
              refine l_q rfl rfl rfl (q_cat rfl rfl rfl (by first | omega | (simp only [List.length_append, List.length_cons, List.length_nil, List.length_take, List.length_drop]; omega))) ?_
              refine l_q rfl rfl rfl (q_indexAddr_arr rfl Tryz.underlying23 ti9 rfl rfl (by omega)) ?_
              refine l_q rfl rfl rfl ((by first | exact q_load_row rfl Tryz.underlying9 rfl rfl (by rfl) | exact q_load rfl Tryz.underlying9 rfl rfl (rd_st (i := k) hv (by omega)))) ?_
              refine l_q rfl rfl rfl (q_cat rfl rfl rfl (by first | omega | (simp only [List.length_append, List.length_cons, List.length_nil, List.length_take, List.length_drop]; omega))) ?_
              rw [txt_F]
              refine l_e rfl rfl rfl (eff_call rfl rfl rfl Tryz.func9 (by kernel_rfl) rfl (fun w hw => first_calls (gA true ob cb l) (by have := gA_len true ob cb l; omega) (0) _ _ _ w ((hG.mono hL0).mono ((hLj.trans hJ98).trans hJ106)) hw)) ?_
              rintro _ J140 _ ⟨hJ140, rfl, c140, rfl, hn140⟩
              rw [first_gA true hK hq4 (by have := gA_len true ob cb l; omega)] at hn140 ⊢
              dsimp only at hn140 ⊢
              refine l_q rfl rfl rfl (q_move rfl rfl) ?_
              refine l_q rfl rfl rfl (q_extract rfl rfl rfl) ?_
              refine l_q rfl rfl rfl (q_extract rfl rfl rfl) ?_
              refine l_q rfl rfl rfl (q_extract rfl rfl rfl) ?_
              refine l_q rfl rfl rfl (q_extract rfl rfl rfl) ?_
              refine l_q rfl rfl rfl (q_extract rfl rfl rfl) ?_
              refine l_e rfl rfl rfl (e_alloc rfl ti29 rfl) ?_
              rintro _ _ _ ⟨b22, rfl, rfl, rfl⟩
              refine l_e0 rfl rfl ((by first | exact e_store_all rfl ti29 rfl rfl rfl (by first | exact chC_ones _ | exact pcC_ones _ | exact hn57.ones | exact hn98.ones | exact hn140.ones | exact pqC_ones _ | simp [Value.oneCell', str, u8]) rfl | exact e_store_agg rfl ti29 rfl rfl rfl (by first | exact chC_ones _ | exact pcC_ones _ | exact hn57.ones | exact hn98.ones | exact hn140.ones | exact pqC_ones _ | simp [Value.oneCell', str, u8]) rfl)) ?_
              rintro _ _ _ ⟨rfl, rfl⟩
              refine l_heap (H' := row b22 29 (ncC c140) :: _) ?_ (fun _ h => h)
              refine l_q rfl rfl rfl (q_assign rfl rfl) ?_
              refine l_q rfl rfl rfl (q_assign rfl rfl) ?_
              refine l_q rfl rfl rfl (q_assign rfl rfl) ?_
              refine l_q rfl rfl rfl (q_assign rfl rfl) ?_
              refine l_nil ?_
              refine n_then ?_
              refine t_seq ?_
              refine t_region ?_
              refine l_q rfl rfl rfl ((by first | exact q_load_rowA rfl Tryz.underlying29 ti29 rfl rfl rfl | exact q_load_agg rfl Tryz.underlying29 ti29 rfl rfl ((hvf.mono hLj).rds hpq))) ?_
              refine l_e rfl rfl rfl (eff_call rfl rfl rfl Tryz.func15 (by kernel_rfl) rfl (fun w hw => show_calls (nodF true (ndK K [smpQ l])) ([102] ++ [40, 41, 32] ++ outG ob cb l) (0 + 1 + 1) (gB true ob cb l).length (gB true ob cb l).length (by show ¬ (14 : Nat) = 5; decide) (show_F hK hl30) (by omega) (by simp only [List.length_append, List.length_cons, List.length_nil]; rw [outG_len]; omega) (by rw [outF_B]; exact first_gB true hK hq4 hB1) (by rw [outF_B]; exact first_none hB1) (noR_one 14 [102] (noR_one K [] (smpQ_R hl30))) c140 _ _ _ w ((hG.mono hL0).mono (((hLj.trans hJ98).trans hJ106).trans hJ140)) hn140 hw)) ?_
              rintro _ J148 _ ⟨hJ148, rfl, rfl⟩
              refine l_q rfl rfl rfl (q_move rfl rfl) ?_
              refine l_q rfl rfl rfl (q_extract rfl rfl rfl) ?_
              refine l_q rfl rfl rfl (q_extract rfl rfl rfl) ?_
              refine l_q rfl rfl rfl (q_assign rfl rfl) ?_
              refine l_q rfl rfl rfl (q_assign rfl rfl) ?_
              refine l_nil ?_
              refine n_then ?_
              refine t_seq ?_
              refine t_qreg ?_
              refine s_q rfl rfl rfl (q_move rfl rfl) ?_
              refine s_q rfl rfl rfl (q_neq rfl rfl rfl) ?_
              refine s_q rfl rfl rfl (q_move rfl rfl) ?_
              refine s_or2 2 2 153 156 155 _ _ rfl rfl rfl rfl rfl rfl (fun h156 => by
                  try simp at h156
                  refine s_g rfl rfl rfl rfl rfl rfl (q_move rfl rfl) ?_
                  refine s_g rfl rfl rfl rfl rfl rfl (q_neq rfl rfl rfl) ?_
                  exact s_val rfl
                ) (wanted_n rfl) rfl rfl rfl ?_
              refine s_q rfl rfl rfl (q_move rfl rfl) ?_
              refine s_or2 4 6 157 162 161 _ _ rfl rfl rfl rfl rfl rfl (fun h162 => by
                  try simp at h162
                  refine s_g rfl rfl rfl rfl rfl rfl (q_move rfl rfl) ?_
                  refine s_g rfl rfl rfl rfl rfl rfl (q_move rfl rfl) ?_
                  refine s_g rfl rfl rfl rfl rfl rfl (q_cat rfl rfl rfl (by first | omega | (simp only [List.length_append, List.length_cons, List.length_nil, List.length_take, List.length_drop]; omega))) ?_
                  refine s_g rfl rfl rfl rfl rfl rfl (q_neq_str rfl rfl rfl) ?_
                  exact s_val rfl
                ) (wanted_n rfl) rfl rfl rfl ?_
              refine s_done ?_
              refine n_then ?_
              refine t_cond rfl (fun hc7 => ?_) (fun hc7 => ?_)
              · skip
                exfalso
                simp at hc7
              · skip
                refine t_skip ?_
                refine n_block ?_
                refine n_then ?_
                refine t_region ?_
                refine l_q rfl rfl rfl (q_add64 rfl rfl rfl (by omega)) ?_
                refine l_q rfl rfl rfl (q_move rfl rfl) ?_
                refine l_nil ?_
                refine n_roundE ((i + 1, J148)) ?_ ?_ (sub_cons rfl sub_nil) (sub_cons rfl (sub_cons rfl (sub_cons rfl (sub_cons rfl (sub_cons rfl (sub_cons rfl (sub_cons rfl (sub_cons rfl (sub_cons rfl (sub_cons rfl (sub_cons rfl (sub_cons rfl (sub_cons rfl (sub_cons rfl (sub_cons rfl sub_nil))))))))))))))) (fun _ h => by try dsimp only; exact subC_st h)
                · try dsimp only
                  exact ⟨by omega, (((hLj.trans hJ98).trans hJ106).trans hJ140).trans hJ148⟩
                · try dsimp only
                  show 2 - (i + 1) < 2 - i
                  omega
          · skip
            try simp at hc5
            refine t_exit ?_
            refine n_exit_then ?_
            refine n_exit_then ?_
            refine n_exit_block ?_
            refine n_then ?_
            refine t_seq ?_
            refine t_region ?_
            refine l_q rfl rfl rfl (q_assign rfl rfl) ?_
            refine l_nil ?_
            refine n_then ?_
            refine t_ret ?_
            refine n_ret1 rfl rfl (fun w' hw => ?_)
            -- leaf 2
            exact ⟨rfl, (hw.less (hL0.trans hLj)).below⟩
end Go.Tri
