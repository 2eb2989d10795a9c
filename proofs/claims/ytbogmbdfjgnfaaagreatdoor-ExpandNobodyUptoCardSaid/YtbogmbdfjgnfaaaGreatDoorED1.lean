/-
  Pieces, byte by byte.
-/
import Derived.Test.YtbogmbdfjgnfaaaGreatDoorEC7
import Derived.Test.YtbogmbdfjgnfaaaGreatDoorPGen
namespace Go.Tri
open Go.Proofs Go.RowKit
theorem evP_cons2 {α : Type} {t : List UInt8} {k : Nat} {r : List α} (g : UInt8 → α) (h : k < t.length) : (t.drop k).map g ++ r = g (nth t k 0) :: ((t.drop (k + 1)).map g ++ r) := by
  rw [drop_nth 0 h]; rfl
theorem soft_has (c : UInt8) : hasB [32, 9, 10] c = isSoftB c := by
  unfold hasB isSoftB
  simp only [List.any_cons, List.any_nil, Bool.or_false]
  rw [Bool.eq_iff_iff]
  simp only [Bool.or_eq_true, beq_iff_eq, decide_eq_true_eq]
  constructor
  · rintro (h | h | h) <;> simp [← h]
  · rintro ((h | h) | h) <;> simp [h]
def FieldsPost (l : List Pc) (ifs : List UInt8) (I : Look) (F : List HA) : Value → Look → List HA → Prop := fun v I' H' => Le I I' ∧ H' = F ∧
  ∃ fv err, v = .tuple #[fv, .int .i64 err] ∧ (if okFields (fieldsAll l ifs) then err = 0 ∧ RL I' fv (fieldsAll l ifs) else err = 66 ∧ fv = .slice none 0 0)
def EndPost (b : Nat) (vc : Value) (lg s : Bool) (us : List Value) (cur : List Ch) (I : Look) (F : List HA) : Value → Look → List HA → Prop := fun _ I' H' => Le I I' ∧ Sl I' 2 vc (cur.map chC) ∧
  ∃ vo', H' = row b 131 [vo', .slice none 0 0, .bool false, .bool s, .bool (lg || decide ((4096 : Int) < (cur.length : Int)))] :: tvec 47 1 oneC vo' (us ++ [vc]) :: tvec 88 2 chC (.slice none 0 0) [] :: F
def BytesPost (vl : Value) (ifs : List UInt8) (I : Look) (F : List HA) : Value → Look → List HA → Prop := fun v I' H' => Le I I' ∧ H' = F ∧
  ∃ b2 b3, v = .func (.func 82) #[] #[.pointer (some ⟨b2, 0, none⟩), .pointer (some ⟨b3, 0, none⟩)] ∧ CellI I' b2 0 vl ∧ CellI I' b3 0 (str ifs)
theorem chText_snoc (l : List Ch) (k : Nat) (h : k < l.length) : chText (l.take (k + 1)) = chText (l.take k) ++ [(nth l k ⟨0, false⟩).b] := by
  unfold chText; rw [take_nth ⟨0, false⟩ h, List.map_append]; rfl
set_option maxRecDepth 10000 in
theorem bytes_iter (l : List Pc) (ifs : List UInt8) (vl : Value) (b2 b3 : Nat) (hll : l.length ≤ 4611686018427387904) (hpl : ∀ p ∈ l, p.t.length ≤ 4611686018427387904) : Iterates Tryz.prog 82 [.pointer (some ⟨b2, 0, none⟩), .pointer (some ⟨b3, 0, none⟩)] ((evsq l ifs).map evV) (fun I => CellI I b2 0 vl ∧ CellI I b3 0 (str ifs) ∧ Sl I 3 vl (l.map pcC)) := by
  intro γ Cd Cx G II lid hY w0 g00 F w hcd0 ⟨hb2, hb3, hv0⟩ hw0
  have hJ := Le.refl (II g00)
  have hv' := hv0
  refine enter Tryz.func82 rfl Tryz.ntmps82 rfl (hw0.self) ?_
  refine t_seq ?_
  refine t_region ?_
  refine l_q rfl rfl rfl ((by first | exact q_load_row rfl Tryz.underlying79 rfl rfl (by rfl) | exact q_load rfl Tryz.underlying79 rfl rfl (rd_imm (hb2.mono hJ)) | exact q_load rfl Tryz.underlying79 rfl rfl (rd_imm (hb3.mono hJ)))) ?_
  refine l_q rfl rfl rfl ((by first | exact q_lenV rfl Tryz.underlying79 rfl | exact q_len rfl Tryz.underlying79 rfl (Sl.lenOf hv' (List.length_map _)))) ?_
  refine l_q rfl rfl rfl (q_move rfl rfl) ?_
  refine l_nil ?_
  refine n_then ?_
  refine t_block ?_
  refine t_loopE (ι := Nat × Nat × γ) (fun zz => zz.1 ≤ l.length ∧ zz.2.1 ≤ (evsq l ifs).length ∧ Cd zz.2.1 zz.2.2 ∧ Le (II g00) (II zz.2.2) ∧ (evsq l ifs).drop zz.2.1 = evsq (l.drop zz.1) ifs) (fun zz => l.length - zz.1) (fun zz => [(11, .int .i64 (zz.1 : Int))]) [(0, _), (1, _), (2, _), (9, _), (10, _)] (fun zz => (II zz.2.2)) (fun zz => (F ++ G zz.2.2)) (0, 0, g00) ?_ (sub_cons rfl sub_nil) (sub_cons rfl (sub_cons rfl (sub_cons rfl (sub_cons rfl (sub_cons rfl sub_nil))))) (fun _ h => subC_st h) ?_
  · try dsimp only
    exact ⟨Nat.zero_le _, Nat.zero_le _, hcd0, Le.refl _, rfl⟩
  rintro ⟨i, n, g⟩ ⟨hi, hn, hcd, hJ, hdr⟩
  try dsimp only at *
  have hv' := hv0.mono hJ
  refine t_seq ?_
  refine t_region ?_
  refine l_q rfl rfl rfl (q_lss rfl rfl rfl) ?_
  refine l_nil ?_
  refine n_then ?_
  refine t_seq ?_
  refine t_cond rfl (fun hc0 => ?_) (fun hc0 => ?_)
  · skip
    try simp at hc0
    have hpi : (nth l i pc0).t.length ≤ 4611686018427387904 := hpl _ (nth_mem hc0)
    refine t_skip ?_
    refine n_then ?_
    refine t_seq ?_
    refine t_block ?_
    refine t_seq ?_
    refine t_region ?_
    refine l_q rfl rfl rfl ((by first | exact q_indexAddrVN rfl Tryz.underlying79 ti108 rfl rfl (by omega) | exact q_indexAddrN rfl Tryz.underlying79 ti108 rfl rfl (Sl.shape hv' (List.length_map _)) (by omega) | exact q_indexAddrV rfl Tryz.underlying79 ti108 rfl rfl (by omega) | exact q_indexAddr rfl Tryz.underlying79 ti108 rfl rfl (Sl.shape hv' (List.length_map _)) (by omega))) ?_
    refine l_q rfl rfl rfl ((by first | exact q_load_rowA rfl Tryz.underlying108 ti108 rfl rfl rfl | exact q_load_agg rfl Tryz.underlying108 ti108 rfl rfl (rds_pc (i := i) hv' (by omega)))) ?_
    refine l_e rfl rfl rfl (e_alloc rfl ti108 rfl) ?_
    rintro _ _ _ ⟨b5, rfl, rfl, rfl⟩
    refine l_e0 rfl rfl ((by first | exact e_store_all rfl ti108 rfl rfl rfl (by first | exact chC_ones _ | exact pcC_ones _ | simp [Value.oneCell', str, u8]) rfl | exact e_store_agg rfl ti108 rfl rfl rfl (by first | exact chC_ones _ | exact pcC_ones _ | simp [Value.oneCell', str, u8]) rfl)) ?_
    rintro _ _ _ ⟨rfl, rfl⟩
    refine l_nil ?_
    refine n_then ?_
    refine t_cutE (ι := Nat × γ) (fun zz => zz.1 ≤ (evsq l ifs).length ∧ Cd zz.1 zz.2 ∧ Le (II g00) (II zz.2) ∧ (evsq l ifs).drop zz.1 = (((nth l i pc0).t.drop 0).map (fun b => ((⟨b, (nth l i pc0).q⟩ : Ch), kindB (nth l i pc0) ifs b))) ++ evsq (l.drop (i + 1)) ifs) (fun zz => []) [(11, _), (0, _), (1, _), (2, _), (9, _), (10, _), (12, _), (5, _)] (fun zz => (II zz.2)) (fun zz => (row b5 108 (pcC (nth l i pc0)) :: (F ++ G zz.2))) (sub_cons rfl (sub_cons rfl (sub_cons rfl (sub_cons rfl (sub_cons rfl (sub_cons rfl (sub_cons rfl (sub_cons rfl sub_nil)))))))) ?_ ?_
    · skip
      refine t_seq ?_
      refine t_region ?_
      refine l_q rfl rfl rfl (q_fieldAddr rfl Tryz.underlying108 rfl rfl ti4 rfl rfl) ?_
      refine l_q rfl rfl rfl ((by first | exact q_load_row rfl Tryz.underlying4 rfl rfl (by rfl) | exact q_load rfl Tryz.underlying4 rfl rfl (rd_imm (hb2.mono hJ)) | exact q_load rfl Tryz.underlying4 rfl rfl (rd_imm (hb3.mono hJ)))) ?_
      refine l_q rfl rfl rfl (q_move rfl rfl) ?_
      refine l_split (t := 17) rfl (fun hs0 => ?_) (fun hs0 => ?_)
      · skip
        try simp at hs0
        refine l_qg (wanted_g rfl rfl rfl rfl) rfl rfl (q_move rfl rfl) ?_
        refine l_qg (wanted_g rfl rfl rfl rfl) rfl rfl (q_build (pl := [(_, _), (_, _)]) (cs := (chC ⟨0, false⟩).toArray) rfl Tryz.underlying88 ti88 ⟨rfl, ⟨_, _, ti5⟩, rfl, ⟨_, _, ti4⟩, trivial⟩ rfl rfl) ?_
        have hq := hdr
        rw [evsq_drop (l := l) (i := i) ifs hc0, evq, if_pos hs0] at hq
        refine l_yield (i := n) g (wanted_g rfl rfl rfl rfl) rfl rfl rfl rfl rfl hY (evV_at (x := (⟨0, false⟩, 1)) hq) hcd rfl (fun g hcd hle => ?_) (fun g hcx hle => ?_)
        · skip
          replace hJ := hJ.trans hle
          refine l_qg (wanted_g rfl rfl rfl rfl) rfl rfl (q_not rfl rfl) ?_
          refine l_q rfl rfl rfl (q_pick rfl rfl rfl rfl) ?_
          refine l_nil ?_
          refine n_then ?_
          refine t_cond rfl (fun hc1 => ?_) (fun hc1 => ?_)
          · skip
            try simp at hc1
          · skip
            try simp at hc1
            refine t_skip ?_
            refine n_cut ((n + 1, g)) ?_ (sub_nil) (sub_cons rfl (sub_cons rfl (sub_cons rfl (sub_cons rfl (sub_cons rfl (sub_cons rfl (sub_cons rfl (sub_cons rfl sub_nil)))))))) (fun _ h => by try dsimp only; exact subC_st h)
            · try dsimp only
              exact ⟨(drop_step hq).1, hcd, hJ, (drop_step hq).2.2⟩
        · skip
          replace hJ := hJ.trans hle
          refine l_qg (wanted_g rfl rfl rfl rfl) rfl rfl (q_not rfl rfl) ?_
          refine l_q rfl rfl rfl (q_pick rfl rfl rfl rfl) ?_
          refine l_nil ?_
          refine n_then ?_
          refine t_cond rfl (fun hc2 => ?_) (fun hc2 => ?_)
          · skip
            try simp at hc2
            refine t_ret ?_
            refine n_ret_then ?_
            refine n_ret_block ?_
            refine n_ret_then ?_
            refine n_ret_then ?_
            refine n_ret_block ?_
            refine n_ret0 rfl (fun w' hw => ?_)
            -- leaf 0
            exact ⟨_, rfl, g, .inr ⟨n + 1, by rw [List.length_map]; exact (drop_step hq).1, hcx⟩, hJ, hw0.rebase (subC_st hw)⟩
          · skip
            try simp at hc2
      · skip
        try simp at hs0
        refine l_skip rfl rfl rfl rfl rfl rfl rfl ?_
        refine l_skip rfl rfl rfl rfl rfl rfl rfl ?_
        refine l_skip rfl rfl rfl rfl rfl rfl rfl ?_
        refine l_skip rfl rfl rfl rfl rfl rfl rfl ?_
        refine l_q rfl rfl rfl (q_pick rfl rfl rfl rfl) ?_
        refine l_nil ?_
        refine n_then ?_
        refine t_cond rfl (fun hc3 => ?_) (fun hc3 => ?_)
        · skip
          try simp at hc3
        · skip
          try simp at hc3
          refine t_skip ?_
          refine n_cut ((n, g)) ?_ (sub_nil) (sub_cons rfl (sub_cons rfl (sub_cons rfl (sub_cons rfl (sub_cons rfl (sub_cons rfl (sub_cons rfl (sub_cons rfl sub_nil)))))))) (fun _ h => by try dsimp only; exact subC_st h)
          · try dsimp only
            refine ⟨hn, hcd, hJ, ?_⟩
            rw [evsq_drop (l := l) (i := i) ifs hc0, evq, if_neg (by simp [hs0])] at hdr; exact hdr
    rintro ⟨n, g⟩ ⟨hn, hcd, hJ, hdr⟩
    try dsimp only at *
    refine t_seq ?_
    refine t_region ?_
    refine l_q rfl rfl rfl (q_fieldAddr rfl Tryz.underlying108 rfl rfl ti9 rfl rfl) ?_
    refine l_q rfl rfl rfl ((by first | exact q_load_row rfl Tryz.underlying9 rfl rfl (by rfl) | exact q_load rfl Tryz.underlying9 rfl rfl (rd_imm (hb2.mono hJ)) | exact q_load rfl Tryz.underlying9 rfl rfl (rd_imm (hb3.mono hJ)))) ?_
    refine l_q rfl rfl rfl (q_len_str rfl Tryz.underlying9 rfl) ?_
    refine l_q rfl rfl rfl (q_move rfl rfl) ?_
    refine l_nil ?_
    refine n_then ?_
    refine t_block ?_
    refine t_loopE (ι := Nat × Nat × γ) (fun zz => zz.1 ≤ (nth l i pc0).t.length ∧ zz.2.1 ≤ (evsq l ifs).length ∧ Cd zz.2.1 zz.2.2 ∧ Le (II g00) (II zz.2.2) ∧ (evsq l ifs).drop zz.2.1 = (((nth l i pc0).t.drop zz.1).map (fun b => ((⟨b, (nth l i pc0).q⟩ : Ch), kindB (nth l i pc0) ifs b))) ++ evsq (l.drop (i + 1)) ifs) (fun zz => (nth l i pc0).t.length - zz.1) (fun zz => [(26, .int .i64 (zz.1 : Int))]) [(11, _), (0, _), (1, _), (2, _), (9, _), (10, _), (12, _), (5, _), (25, _)] (fun zz => (II zz.2.2)) (fun zz => (row b5 108 (pcC (nth l i pc0)) :: (F ++ G zz.2.2))) (0, n, g) ?_ (sub_cons rfl sub_nil) (sub_cons rfl (sub_cons rfl (sub_cons rfl (sub_cons rfl (sub_cons rfl (sub_cons rfl (sub_cons rfl (sub_cons rfl (sub_cons rfl sub_nil))))))))) (fun _ h => subC_st h) ?_
    · try dsimp only
      exact ⟨Nat.zero_le _, hn, hcd, hJ, hdr⟩
    rintro ⟨k, n, g⟩ ⟨hk, hn, hcd, hJ, hdr⟩
    try dsimp only at *
    have hv' := hv0.mono hJ
    refine t_seq ?_
    refine t_region ?_
    refine l_q rfl rfl rfl (q_lss rfl rfl rfl) ?_
    refine l_nil ?_
    refine n_then ?_
    refine t_seq ?_
    refine t_cond rfl (fun hc4 => ?_) (fun hc4 => ?_)
    · skip
      try simp at hc4
      have hkl : k < (nth l i pc0).t.length := by omega
      refine t_skip ?_
      refine n_then ?_
      refine t_seq ?_
      refine t_block ?_
      refine t_seq ?_
      refine t_region ?_
      refine l_q rfl rfl rfl (q_move rfl rfl) ?_
      refine l_q rfl rfl rfl (q_assign rfl rfl) ?_
      refine l_nil ?_
      refine n_then ?_
      refine t_seq ?_
      refine t_draw [7, 8] [] [row b5 108 (pcC (nth l i pc0))] mo (by kernel_rfl) (fun _ _ _ _ _ h => h) ?_
      refine r_q0 0 (by kernel_rfl) rfl (Le.refl _) rfl rfl rfl (fun _ hI => q_fieldAddr rfl Tryz.underlying108 rfl rfl ti9 rfl rfl) ?_
      refine r_q0 1 (by kernel_rfl) rfl (Le.refl _) rfl rfl rfl (fun _ hI => (by first | exact q_load_row rfl Tryz.underlying9 rfl rfl (by rfl) | exact q_load rfl Tryz.underlying9 rfl rfl (rd_imm (hb2.mono hJ)) | exact q_load rfl Tryz.underlying9 rfl rfl (rd_imm (hb3.mono hJ)))) ?_
      refine r_q0 2 (by kernel_rfl) rfl (Le.refl _) rfl rfl rfl (fun _ hI => q_move rfl rfl) ?_
      refine r_q0 3 (by kernel_rfl) rfl (Le.refl _) rfl rfl rfl (fun _ hI => (by first | exact q_index_strN rfl Tryz.underlying9 rfl rfl (by omega) | exact q_index_str rfl Tryz.underlying9 rfl rfl (by omega))) ?_
      refine r_q0 4 (by kernel_rfl) rfl (Le.refl _) rfl rfl rfl (fun _ hI => q_fieldAddr rfl Tryz.underlying108 rfl rfl ti4 rfl rfl) ?_
      refine r_q0 5 (by kernel_rfl) rfl (Le.refl _) rfl rfl rfl (fun _ hI => (by first | exact q_load_row rfl Tryz.underlying4 rfl rfl (by rfl) | exact q_load rfl Tryz.underlying4 rfl rfl (rd_imm (hb2.mono hJ)) | exact q_load rfl Tryz.underlying4 rfl rfl (rd_imm (hb3.mono hJ)))) ?_
      refine r_q0 6 (by kernel_rfl) rfl (Le.refl _) rfl rfl rfl (fun _ hI => q_build (pl := [(_, _), (_, _)]) (cs := (chC ⟨nth (nth l i pc0).t k 0, (nth l i pc0).q⟩).toArray) rfl Tryz.underlying88 ti88 ⟨rfl, ⟨_, _, ti5⟩, rfl, ⟨_, _, ti4⟩, trivial⟩ rfl rfl) ?_
      refine r_e 7 (by kernel_rfl) (by kernel_rfl) rfl (Le.refl _) rfl rfl rfl (e_alloc rfl ti88 rfl) ?_
      rintro _ _ _ ⟨b7, rfl, rfl, rfl⟩
      refine ⟨Le.refl _, .inr SubC.sub, ?_⟩
      refine r_e0 8 (by kernel_rfl) (by kernel_rfl) rfl (Le.refl _) rfl rfl ((by first | exact e_store_all rfl ti88 rfl rfl rfl (by first | exact chC_ones _ | exact pcC_ones _ | simp [Value.oneCell', str, u8]) rfl | exact e_store_agg rfl ti88 rfl rfl rfl (by first | exact chC_ones _ | exact pcC_ones _ | simp [Value.oneCell', str, u8]) rfl)) ?_
      rintro _ _ _ ⟨rfl, rfl⟩
      refine ⟨Le.refl _, .inr SubC.sub, ?_⟩
      refine r_end (by kernel_rfl) ?_
      refine n_then ?_
      refine t_seq ?_
      refine t_region ?_
      refine l_q rfl rfl rfl (q_assign rfl rfl) ?_
      refine l_nil ?_
      refine n_then ?_
      refine t_cutE (ι := Nat) (fun zz => zz = kindB (nth l i pc0) ifs (nth (nth l i pc0).t k 0)) (fun zz => [(8, .int .i64 (zz : Int))]) [(26, _), (11, _), (0, _), (1, _), (2, _), (9, _), (10, _), (12, _), (5, _), (25, _), (27, _), (6, _), (7, _)] (fun zz => (II g)) (fun zz => (row b7 88 (chC ⟨nth (nth l i pc0).t k 0, (nth l i pc0).q⟩) :: row b5 108 (pcC (nth l i pc0)) :: (F ++ G g))) (sub_cons rfl (sub_cons rfl (sub_cons rfl (sub_cons rfl (sub_cons rfl (sub_cons rfl (sub_cons rfl (sub_cons rfl (sub_cons rfl (sub_cons rfl (sub_cons rfl (sub_cons rfl (sub_cons rfl sub_nil))))))))))))) ?_ ?_
      · skip
        refine t_seq ?_
        refine t_qreg ?_
        refine s_q rfl rfl rfl (q_fieldAddr rfl Tryz.underlying108 rfl rfl ti4 rfl rfl) ?_
        refine s_q rfl rfl rfl ((by first | exact q_load_row rfl Tryz.underlying4 rfl rfl (by rfl) | exact q_load rfl Tryz.underlying4 rfl rfl (rd_imm (hb2.mono hJ)) | exact q_load rfl Tryz.underlying4 rfl rfl (rd_imm (hb3.mono hJ)))) ?_
        refine s_q rfl rfl rfl (q_move rfl rfl) ?_
        refine s_and2 3 2 38 42 41 _ _ rfl rfl rfl rfl rfl rfl (fun h42 => by
            try simp at h42
            refine s_g rfl rfl rfl rfl rfl rfl (q_fieldAddr rfl Tryz.underlying108 rfl rfl ti4 rfl rfl) ?_
            refine s_g rfl rfl rfl rfl rfl rfl ((by first | exact q_load_row rfl Tryz.underlying4 rfl rfl (by rfl) | exact q_load rfl Tryz.underlying4 rfl rfl (rd_imm (hb2.mono hJ)) | exact q_load rfl Tryz.underlying4 rfl rfl (rd_imm (hb3.mono hJ)))) ?_
            refine s_g rfl rfl rfl rfl rfl rfl (q_not rfl rfl) ?_
            exact s_val rfl
          ) (wanted_n rfl) rfl rfl rfl ?_
        refine s_q rfl rfl rfl (q_move rfl rfl) ?_
        refine s_and2 5 7 43 49 48 _ _ rfl rfl rfl rfl rfl rfl (fun h49 => by
            try simp at h49
            refine s_g rfl rfl rfl rfl rfl rfl ((by first | exact q_load_row rfl Tryz.underlying9 rfl rfl (by rfl) | exact q_load rfl Tryz.underlying9 rfl rfl (rd_imm (hb2.mono hJ)) | exact q_load rfl Tryz.underlying9 rfl rfl (rd_imm (hb3.mono hJ)))) ?_
            refine s_g rfl rfl rfl rfl rfl rfl (q_fieldAddr rfl Tryz.underlying88 rfl rfl ti5 rfl rfl) ?_
            refine s_g rfl rfl rfl rfl rfl rfl ((by first | exact q_load_row rfl Tryz.underlying5 rfl rfl (by rfl) | exact q_load rfl Tryz.underlying5 rfl rfl (rd_imm (hb2.mono hJ)) | exact q_load rfl Tryz.underlying5 rfl rfl (rd_imm (hb3.mono hJ)))) ?_
            refine s_g rfl rfl rfl rfl rfl rfl (quiet_call rfl rfl rfl Tryz.func56 (by kernel_rfl) rfl ((fun w _ => indexByte_pure _ _ w))) ?_
            refine s_g rfl rfl rfl rfl rfl rfl (q_geq rfl rfl rfl) ?_
            exact s_val rfl
          ) (wanted_n rfl) rfl rfl rfl ?_
        refine s_done ?_
        refine n_then ?_
        refine t_cond rfl (fun hc5 => ?_) (fun hc5 => ?_)
        · skip
          refine t_seq ?_
          refine t_region ?_
          refine l_q rfl rfl rfl (q_assign rfl rfl) ?_
          refine l_nil ?_
          refine n_then ?_
          refine t_seq ?_
          refine t_region ?_
          refine l_q rfl rfl rfl (q_fieldAddr rfl Tryz.underlying88 rfl rfl ti5 rfl rfl) ?_
          refine l_q rfl rfl rfl ((by first | exact q_load_row rfl Tryz.underlying5 rfl rfl (by rfl) | exact q_load rfl Tryz.underlying5 rfl rfl (rd_imm (hb2.mono hJ)) | exact q_load rfl Tryz.underlying5 rfl rfl (rd_imm (hb3.mono hJ)))) ?_
          refine l_q rfl rfl rfl (quiet_call rfl rfl rfl Tryz.func56 (by kernel_rfl) rfl ((fun w _ => indexByte_pure _ _ w))) ?_
          refine l_q rfl rfl rfl (q_geq rfl rfl rfl) ?_
          refine l_nil ?_
          refine n_then ?_
          refine t_cond rfl (fun hc6 => ?_) (fun hc6 => ?_)
          · skip
            refine t_region ?_
            refine l_q rfl rfl rfl (q_assign rfl rfl) ?_
            refine l_nil ?_
            refine n_cut (2) ?_ (sub_cons rfl sub_nil) (sub_cons rfl (sub_cons rfl (sub_cons rfl (sub_cons rfl (sub_cons rfl (sub_cons rfl (sub_cons rfl (sub_cons rfl (sub_cons rfl (sub_cons rfl (sub_cons rfl (sub_cons rfl (sub_cons rfl sub_nil))))))))))))) (fun _ h => by try dsimp only; exact subC_st h)
            · try dsimp only
              have h5 : ((nth l i pc0).s && !(nth l i pc0).q && decide (0 ≤ Lib.indexByte ifs (nth (nth l i pc0).t k 0))) = true := hc5
              rw [indexByte_has] at h5
              have h6 : decide (0 ≤ Lib.indexByte [32, 9, 10] (nth (nth l i pc0).t k 0)) = true := hc6
              rw [indexByte_has, soft_has] at h6
              unfold kindB; rw [if_pos h5, if_pos h6]
          · skip
            refine t_skip ?_
            refine n_cut (3) ?_ (sub_cons rfl sub_nil) (sub_cons rfl (sub_cons rfl (sub_cons rfl (sub_cons rfl (sub_cons rfl (sub_cons rfl (sub_cons rfl (sub_cons rfl (sub_cons rfl (sub_cons rfl (sub_cons rfl (sub_cons rfl (sub_cons rfl sub_nil))))))))))))) (fun _ h => by try dsimp only; exact subC_st h)
            · try dsimp only
              have h5 : ((nth l i pc0).s && !(nth l i pc0).q && decide (0 ≤ Lib.indexByte ifs (nth (nth l i pc0).t k 0))) = true := hc5
              rw [indexByte_has] at h5
              have h6 : decide (0 ≤ Lib.indexByte [32, 9, 10] (nth (nth l i pc0).t k 0)) = false := hc6
              rw [indexByte_has, soft_has] at h6
              unfold kindB; rw [if_pos h5, if_neg (by simp [h6])]
        · skip
          refine t_skip ?_
          refine n_cut (0) ?_ (sub_cons rfl sub_nil) (sub_cons rfl (sub_cons rfl (sub_cons rfl (sub_cons rfl (sub_cons rfl (sub_cons rfl (sub_cons rfl (sub_cons rfl (sub_cons rfl (sub_cons rfl (sub_cons rfl (sub_cons rfl (sub_cons rfl sub_nil))))))))))))) (fun _ h => by try dsimp only; exact subC_st h)
          · try dsimp only
            have h5 : ((nth l i pc0).s && !(nth l i pc0).q && decide (0 ≤ Lib.indexByte ifs (nth (nth l i pc0).t k 0))) = false := hc5
            rw [indexByte_has] at h5
            unfold kindB; rw [if_neg (by simp [h5])]
      rintro wh hwh
      try dsimp only at *
      refine t_seq ?_
      refine t_region ?_
      refine l_q rfl rfl rfl (q_move rfl rfl) ?_
      refine l_q rfl rfl rfl ((by first | exact q_load_rowA rfl Tryz.underlying88 ti88 rfl rfl rfl | exact q_load_agg rfl Tryz.underlying88 ti88 rfl rfl (rds_pc (i := i) hv' (by omega)))) ?_
      refine l_q rfl rfl rfl (q_move rfl rfl) ?_
      have hq := hdr
      rw [evP_cons2 _ hkl, ← hwh] at hq
      refine l_yield (i := n) g (wanted_n rfl) rfl rfl rfl rfl rfl hY (evV_at (x := (⟨nth (nth l i pc0).t k 0, (nth l i pc0).q⟩, wh)) hq) hcd rfl (fun g hcd hle => ?_) (fun g hcx hle => ?_)
      · skip
        replace hJ := hJ.trans hle
        refine l_q rfl rfl rfl (q_not rfl rfl) ?_
        refine l_nil ?_
        refine n_then ?_
        refine t_cond rfl (fun hc7 => ?_) (fun hc7 => ?_)
        · skip
          try simp at hc7
        · skip
          try simp at hc7
          refine t_skip ?_
          refine n_block ?_
          refine n_then ?_
          refine t_region ?_
          refine l_q rfl rfl rfl (q_add64 rfl rfl rfl (by omega)) ?_
          refine l_q rfl rfl rfl (q_move rfl rfl) ?_
          refine l_nil ?_
          refine n_roundE ((k + 1, n + 1, g)) ?_ ?_ (sub_cons rfl sub_nil) (sub_cons rfl (sub_cons rfl (sub_cons rfl (sub_cons rfl (sub_cons rfl (sub_cons rfl (sub_cons rfl (sub_cons rfl (sub_cons rfl sub_nil))))))))) (fun _ h => by try dsimp only; exact subC_st h)
          · try dsimp only
            exact ⟨(show k + 1 ≤ _ by omega), (drop_step hq).1, hcd, hJ, (drop_step hq).2.2⟩
          · try dsimp only
            show (nth l i pc0).t.length - (k + 1) < (nth l i pc0).t.length - k; omega
      · skip
        replace hJ := hJ.trans hle
        refine l_q rfl rfl rfl (q_not rfl rfl) ?_
        refine l_nil ?_
        refine n_then ?_
        refine t_cond rfl (fun hc8 => ?_) (fun hc8 => ?_)
        · skip
          try simp at hc8
          refine t_ret ?_
          refine n_ret_block ?_
          refine n_ret_then ?_
          refine n_ret_then ?_
          refine n_ret_block ?_
          refine n_ret_block ?_
          refine n_ret_then ?_
          refine n_ret_then ?_
          refine n_ret_block ?_
          refine n_ret0 rfl (fun w' hw => ?_)
          -- leaf 1
          exact ⟨_, rfl, g, .inr ⟨n + 1, by rw [List.length_map]; exact (drop_step hq).1, hcx⟩, hJ, hw0.rebase (subC_st hw)⟩
        · skip
          try simp at hc8
    · skip
      try simp at hc4
      refine t_exit ?_
      refine n_exit_then ?_
      refine n_exit_then ?_
      refine n_exit_block ?_
      refine n_block ?_
      refine n_then ?_
      refine t_region ?_
      refine l_q rfl rfl rfl (q_add64 rfl rfl rfl (by omega)) ?_
      refine l_q rfl rfl rfl (q_move rfl rfl) ?_
      refine l_nil ?_
      refine n_roundE ((i + 1, n, g)) ?_ ?_ (sub_cons rfl sub_nil) (sub_cons rfl (sub_cons rfl (sub_cons rfl (sub_cons rfl (sub_cons rfl sub_nil))))) (fun _ h => by try dsimp only; exact subC_st h)
      · try dsimp only
        refine ⟨(show i + 1 ≤ _ by omega), hn, hcd, hJ, ?_⟩
        rw [show (nth l i pc0).t.drop k = [] from List.drop_of_length_le (by omega)] at hdr; exact hdr
      · try dsimp only
        show l.length - (i + 1) < l.length - i; omega
  · skip
    try simp at hc0
    refine t_exit ?_
    refine n_exit_then ?_
    refine n_exit_then ?_
    refine n_exit_block ?_
    refine n_end0 rfl (fun w' hw => ?_)
    -- leaf 2
    rw [show l.drop i = [] from List.drop_of_length_le (by omega)] at hdr
    exact ⟨_, rfl, g, .inl (by rw [List.length_map, ← drop_end hdr hn]; exact hcd), hJ, hw0.rebase (subC_st hw)⟩
set_option maxRecDepth 10000 in
theorem end_calls (b : Nat) (vo vc : Value) (bg sf lg s : Bool) (us : List Value) (cur : List Ch) (I : Look) (F : List HA) (w0 w : World) (hub : us.length ≤ 1000000) (hw0 : St w0 I (row b 131 [vo, vc, .bool bg, .bool sf, .bool lg] :: tvec 47 1 oneC vo us :: tvec 88 2 chC vc cur :: F) w) : Calls Tryz.prog 53 [.pointer (some ⟨b, 0, none⟩), .bool s].toArray w (fun e w' => ∃ v, e = .returned v ∧ ∃ I' H', EndPost b vc lg s us cur I F v I' H' ∧ St w I' H' w') := by
  refine enter Tryz.func53 rfl Tryz.ntmps53 rfl (hw0.self) ?_
  refine t_seq ?_
  refine t_region ?_
  refine l_quietHead 13 ?_
  refine s_q rfl rfl rfl (q_move rfl rfl) ?_
  refine s_q rfl rfl rfl (q_move rfl rfl) ?_
  refine s_q rfl rfl rfl (q_nilCheck rfl rfl) ?_
  refine s_q rfl rfl rfl (q_fieldAddr rfl Tryz.underlying131 rfl rfl ti4 rfl rfl) ?_
  refine s_q rfl rfl rfl (q_load_row rfl Tryz.underlying4 rfl rfl (by rfl)) ?_
  refine s_q rfl rfl rfl (q_move rfl rfl) ?_
  refine s_or2 6 5 9 16 15 _ _ rfl rfl rfl rfl rfl rfl (fun h16 => by
      try simp at h16
      refine s_g rfl rfl rfl rfl rfl rfl (q_move rfl rfl) ?_
      refine s_g rfl rfl rfl rfl rfl rfl (q_nilCheck rfl rfl) ?_
      refine s_g rfl rfl rfl rfl rfl rfl (q_fieldAddr rfl Tryz.underlying131 rfl rfl ti47 rfl rfl) ?_
      refine s_g rfl rfl rfl rfl rfl rfl (q_load_row rfl Tryz.underlying47 rfl rfl (by rfl)) ?_
      refine s_g rfl rfl rfl rfl rfl rfl ((by first | exact q_lenV rfl Tryz.underlying47 rfl | exact q_len rfl Tryz.underlying47 rfl (Sl.len ‹_›))) ?_
      refine s_g rfl rfl rfl rfl rfl rfl (q_gtr rfl rfl rfl) ?_
      exact s_val rfl
    ) (wanted_n rfl) rfl rfl rfl ?_
  refine s_list ?_
  refine l_q rfl rfl rfl (q_nilCheck rfl rfl) ?_
  refine l_q rfl rfl rfl (q_fieldAddr rfl Tryz.underlying131 rfl rfl ti4 rfl rfl) ?_
  refine l_e0 rfl rfl (e_storeS rfl ti4 rfl rfl (by first | exact ⟨rfl, rfl⟩ | assumption | exact hcur.one) rfl (by first | (simp only [List.set_cons_succ, List.set_cons_zero]; rfl) | rfl)) ?_
  rintro _ _ _ ⟨rfl, rfl⟩
  refine l_heap (H' := row b 131 [vo, vc, .bool bg, .bool sf, .bool (lg || decide ((4096 : Int) < (cur.length : Int)))] :: tvec 47 1 oneC vo us :: tvec 88 2 chC vc cur :: F) ?_ (fun _ h => h)
  refine l_nil ?_
  refine n_then ?_
  refine t_seq ?_
  refine t_freezeT (f := chC) (l := cur) vc (fun _ => rfl) (fun J hJ hcur => ?_)
  refine t_draw [9, 10, 13] [13] [row b 131 [vo, vc, .bool bg, .bool sf, .bool (lg || decide ((4096 : Int) < (cur.length : Int)))]] mo (by kernel_rfl) (fun _ _ _ _ _ h => h) ?_
  refine r_q0 0 (by kernel_rfl) rfl (Le.refl _) rfl rfl rfl (fun _ hI => q_move rfl rfl) ?_
  refine r_q0 1 (by kernel_rfl) rfl (Le.refl _) rfl rfl rfl (fun _ hI => q_move rfl rfl) ?_
  refine r_q0 2 (by kernel_rfl) rfl (Le.refl _) rfl rfl rfl (fun _ hI => q_nilCheck rfl rfl) ?_
  refine r_q0 3 (by kernel_rfl) rfl (Le.refl _) rfl rfl rfl (fun _ hI => q_fieldAddr rfl Tryz.underlying131 rfl rfl ti80 rfl rfl) ?_
  refine r_q0 4 (by kernel_rfl) rfl (Le.refl _) rfl rfl rfl (fun _ hI => q_load_row rfl Tryz.underlying80 rfl rfl (by rfl)) ?_
  refine r_q1 5 (by kernel_rfl) rfl (Le.refl _) rfl rfl rfl (q_move rfl rfl) ?_
  refine r_q1 6 (by kernel_rfl) rfl (Le.refl _) rfl rfl rfl (q_nilCheck rfl rfl) ?_
  refine r_q1 7 (by kernel_rfl) rfl (Le.refl _) rfl rfl rfl (q_fieldAddr rfl Tryz.underlying131 rfl rfl ti47 rfl rfl) ?_
  refine r_q1 8 (by kernel_rfl) rfl (Le.refl _) rfl rfl rfl (q_load_row rfl Tryz.underlying47 rfl rfl (by rfl)) ?_
  refine r_e 9 (by kernel_rfl) (by kernel_rfl) rfl (Le.refl _) rfl rfl rfl (e_buildSlice1 rfl Tryz.underlying80 ti47 rfl rfl rfl (by first | exact One.cells (by assumption) | exact One.cells hcur.one | rfl) rfl) ?_
  rintro _ _ _ ⟨b28, rfl, rfl, rfl⟩
  refine ⟨Le.refl _, .inr SubC.sub, ?_⟩
  refine r_e 10 (by kernel_rfl) (by kernel_rfl) rfl (Le.refl _) rfl rfl rfl (e_appendT (f := oneC) (c := vc) rfl Tryz.underlying80 ti47 rfl rfl rfl rfl rfl rfl rfl (ones1 hcur.one) (by simp only [maxLen]; omega) (by omega)) ?_
  rintro v29 _ _ ⟨rfl, rfl⟩
  refine ⟨Le.refl _, .inr SubC.sub, ?_⟩
  refine r_one v29 (fun hone => ?_)
  refine r_q0 11 (by kernel_rfl) rfl (Le.refl _) rfl rfl rfl (fun _ hI => q_nilCheck rfl rfl) ?_
  refine r_q0 12 (by kernel_rfl) rfl (Le.refl _) rfl rfl rfl (fun _ hI => q_fieldAddr rfl Tryz.underlying131 rfl rfl ti80 rfl rfl) ?_
  refine r_e0 13 (by kernel_rfl) (by kernel_rfl) rfl (Le.refl _) rfl rfl (e_storeS rfl ti80 rfl rfl (by first | exact ⟨rfl, rfl⟩ | assumption | exact hcur.one) rfl (by first | (simp only [List.set_cons_succ, List.set_cons_zero]; rfl) | rfl)) ?_
  rintro _ _ _ ⟨rfl, rfl⟩
  refine ⟨Le.refl _, .inl rfl, ?_⟩
  refine r_end (by kernel_rfl) ?_
  refine n_then ?_
  refine t_region ?_
  refine l_q rfl rfl rfl (q_move rfl rfl) ?_
  refine l_q rfl rfl rfl (q_move rfl rfl) ?_
  refine l_q rfl rfl rfl (q_move rfl rfl) ?_
  refine l_q rfl rfl rfl (q_move rfl rfl) ?_
  refine l_q rfl rfl rfl (q_nilCheck rfl rfl) ?_
  refine l_q rfl rfl rfl (q_fieldAddr rfl Tryz.underlying131 rfl rfl ti47 rfl rfl) ?_
  refine l_e0 rfl rfl (e_storeS rfl ti47 rfl rfl (by first | exact ⟨rfl, rfl⟩ | assumption | exact hcur.one) rfl (by first | (simp only [List.set_cons_succ, List.set_cons_zero]; rfl) | rfl)) ?_
  rintro _ _ _ ⟨rfl, rfl⟩
  refine l_q rfl rfl rfl (q_nilCheck rfl rfl) ?_
  refine l_q rfl rfl rfl (q_fieldAddr rfl Tryz.underlying131 rfl rfl ti4 rfl rfl) ?_
  refine l_e0 rfl rfl (e_storeS rfl ti4 rfl rfl (by first | exact ⟨rfl, rfl⟩ | assumption | exact hcur.one) rfl (by first | (simp only [List.set_cons_succ, List.set_cons_zero]; rfl) | rfl)) ?_
  rintro _ _ _ ⟨rfl, rfl⟩
  refine l_q rfl rfl rfl (q_nilCheck rfl rfl) ?_
  refine l_q rfl rfl rfl (q_fieldAddr rfl Tryz.underlying131 rfl rfl ti4 rfl rfl) ?_
  refine l_e0 rfl rfl (e_storeS rfl ti4 rfl rfl (by first | exact ⟨rfl, rfl⟩ | assumption | exact hcur.one) rfl (by first | (simp only [List.set_cons_succ, List.set_cons_zero]; rfl) | rfl)) ?_
  rintro _ _ _ ⟨rfl, rfl⟩
  refine l_nil ?_
  refine n_end0 rfl (fun w' hw => ?_)
  -- leaf 0
  refine ⟨_, rfl, J, _, ⟨hJ, hcur, v29, rfl⟩, ?_⟩
  have hw2 : St w J (row b 131 [v29, .slice none 0 0, .bool false, .bool s, .bool (lg || decide ((4096 : Int) < (cur.length : Int)))] :: tvec 47 1 oneC v29 (us ++ [vc]) :: row b28 47 [vc] :: F) w' := hw
  exact subC_st (st_nilT 88 2 chC hw2)
set_option maxRecDepth 10000 in
theorem bytes_calls (vl : Value) (ifs : List UInt8) (I : Look) (F : List HA) (w0 w : World) (hvl : One vl) (hw0 : St w0 I F w) : Calls Tryz.prog 52 [vl, str ifs].toArray w (fun e w' => ∃ v, e = .returned v ∧ ∃ I' H', BytesPost vl ifs I F v I' H' ∧ St w I' H' w') := by
  refine enter Tryz.func52 rfl Tryz.ntmps52 rfl (hw0.self) ?_
  refine t_seq ?_
  refine t_region ?_
  refine l_e rfl rfl rfl (e_box rfl rfl (by first | exact One.cells (by assumption) | exact One.cells hvl | rfl)) ?_
  rintro _ _ _ ⟨b2, rfl, rfl, rfl⟩
  refine l_e rfl rfl rfl (e_box rfl rfl (by first | exact One.cells (by assumption) | exact One.cells hvl | rfl)) ?_
  rintro _ _ _ ⟨b3, rfl, rfl, rfl⟩
  refine l_q rfl rfl rfl (q_assign rfl rfl) ?_
  refine l_nil ?_
  refine n_then ?_
  refine t_seq ?_
  refine t_freezeRow b2 (fun J hJ h2 => ?_)
  refine t_freezeRow b3 (fun J3 hJ3 h3 => ?_)
  refine t_region ?_
  refine l_q rfl rfl rfl (q_makeFunc rfl rfl rfl) ?_
  refine l_q rfl rfl rfl (q_assign rfl rfl) ?_
  refine l_nil ?_
  refine n_then ?_
  refine t_ret ?_
  refine n_ret1 rfl rfl (fun w' hw => ?_)
  -- leaf 0
  exact ⟨_, rfl, J3, _, ⟨hJ.trans hJ3, rfl, b2, b3, rfl, (h2 0 _ rfl).mono hJ3, h3 0 _ rfl⟩, hw⟩
end Go.Tri
