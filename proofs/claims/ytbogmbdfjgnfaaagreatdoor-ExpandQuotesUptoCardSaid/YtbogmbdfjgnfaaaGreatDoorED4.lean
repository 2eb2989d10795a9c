/-
 Pieces, byte by byte.
-/
import Derived.Test.YtbogmbdfjgnfaaaGreatDoorEG4
import Derived.Test.YtbogmbdfjgnfaaaGreatDoorPGen
import Derived.Test.YtbogmbdfjgnfaaaGreatDoorPPat2
import Derived.Test.YtbogmbdfjgnfaaaGreatDoorEC9
namespace Go.Tri
open Go.Proofs Go.RowKit
theorem evP_cons2 {α : Type} {t : List UInt8} {k : Nat} {r : List α} (g : UInt8 → α) (h : k < t.length) : (t.drop k).map g ++ r = g (nth t k 0) :: ((t.drop (k + 1)).map g ++ r) := by
 rw [drop_nth 0 h]; rfl
theorem soft_has (c : UInt8) : hasB [32, 9, 10] c = isSoftB c := by
 unfold hasB isSoftB; simp only [List.any_cons, List.any_nil, Bool.or_false]; rw [Bool.eq_iff_iff]; simp only [Bool.or_eq_true, beq_iff_eq, decide_eq_true_eq]
 constructor
 ·rintro (h | h | h) <;> simp [← h]
 ·rintro ((h | h) | h) <;> simp [h]
def FieldsPost (l : List Pc) (ifs : List UInt8) (I : Look) (F : List HA) : Value → Look → List HA → Prop := fun v I' H' => Le I I' ∧ H' = F ∧
 ∃ fv err, v = .tuple #[fv, .int .i64 err] ∧ (if okFields (fieldsAll l ifs) then err = 0 ∧ RL I' fv (fieldsAll l ifs) else err = 66 ∧ fv = .slice none 0 0)
def EndPost (b : Nat) (vc : Value) (lg s : Bool) (us : List Value) (cur : List Ch) (I : Look) (F : List HA) : Value → Look → List HA → Prop := fun _ I' H' => Le I I' ∧ Sl I' 2 vc (cur.map chC) ∧
 ∃ vo', H' = row b 131 [vo', .slice none 0 0, .bool false, .bool s, .bool (lg || decide ((4096 : Int) < (cur.length : Int)))] :: tvec 47 1 oneC vo' (us ++ [vc]) :: tvec 88 2 chC (.slice none 0 0) [] :: F
def BytesPost (vl : Value) (ifs : List UInt8) (I : Look) (F : List HA) : Value → Look → List HA → Prop := fun v I' H' => Le I I' ∧ H' = F ∧
 ∃ b2 b3, v = .func (.func 82) #[] #[.pointer (some ⟨b2, 0, none⟩), .pointer (some ⟨b3, 0, none⟩)] ∧ CellI I' b2 0 vl ∧ CellI I' b3 0 (str ifs)
theorem chText_snoc (l : List Ch) (k : Nat) (h : k < l.length) : chText (l.take (k + 1)) = chText (l.take k) ++ [(nth l k ⟨0, false⟩).b] := by
 unfold chText; rw [take_nth ⟨0, false⟩ h, List.map_append]; rfl
set_option maxRecDepth 10000 in
theorem bytes_iter (l : List Pc) (ifs : List UInt8) (vl : Value) (b2 b3 : Nat) (hll : l.length ≤ 4611686018427387904) (hpl : ∀ p ∈ l, p.t.length ≤ 4611686018427387904) : Iterates Tryz.prog 82 [.pointer (some ⟨b2, 0, none⟩), .pointer (some ⟨b3, 0, none⟩)] ((evsq l ifs).map evV) (fun I => CellI I b2 0 vl ∧ CellI I b3 0 (str ifs) ∧ Sl I 3 vl (l.map pcC)) := by
 intro γ Cd Cx G II lid hY w0 g00 F w hcd0 ⟨hb2, hb3, hv0⟩ hw0
 have hJ := Le.refl (II g00)
 have hv' := hv0
 refine enter Tryz.func82 rfl Tryz.ntmps82 rfl (hw0.self) ?_; refine t_seq ?_; refine t_region ?_; refine l_q rfl rfl rfl ((by exact q_load rfl Tryz.underlying79 rfl rfl (rd_imm (hb2.mono hJ)))) ?_; refine l_q rfl rfl rfl ((by exact q_len rfl Tryz.underlying79 rfl (Sl.lenOf hv' (List.length_map _)))) ?_; refine l_q rfl rfl rfl (q_move rfl rfl) ?_; refine l_nil ?_; refine n_then ?_; refine t_block ?_; refine t_loopE (ι := Nat × Nat × γ) (fun zz => zz.1 ≤ l.length ∧ zz.2.1 ≤ (evsq l ifs).length ∧ Cd zz.2.1 zz.2.2 ∧ Le (II g00) (II zz.2.2) ∧ (evsq l ifs).drop zz.2.1 = evsq (l.drop zz.1) ifs) (fun zz => l.length - zz.1) (fun zz => [(11, .int .i64 (zz.1 : Int))]) [(0, _), (1, _), (2, _), (9, _), (10, _)] (fun zz => (II zz.2.2)) (fun zz => (F ++ G zz.2.2)) (0, 0, g00) ?_ (sub_cons rfl sub_nil) (sub_cons rfl (sub_cons rfl (sub_cons rfl (sub_cons rfl (sub_cons rfl sub_nil))))) (fun _ h => subC_st h) ?_
 ·try dsimp only
  exact ⟨Nat.zero_le _, Nat.zero_le _, hcd0, Le.refl _, rfl⟩
 rintro ⟨i, n, g⟩ ⟨hi, hn, hcd, hJ, hdr⟩
 try dsimp only at *
 have hv' := hv0.mono hJ
 refine t_seq ?_; refine t_region ?_; refine l_q rfl rfl rfl (q_lss rfl rfl rfl) ?_; refine l_nil ?_; refine n_then ?_; refine t_seq ?_; refine t_cond rfl (fun hc0 => ?_) (fun hc0 => ?_)
 ·try simp at hc0
  have hpi : (nth l i pc0).t.length ≤ 4611686018427387904 := hpl _ (nth_mem hc0)
  refine t_skip ?_; refine n_then ?_; refine t_seq ?_; refine t_block ?_; refine t_seq ?_; refine t_region ?_; refine l_q rfl rfl rfl ((by exact q_indexAddrN rfl Tryz.underlying79 ti108 rfl rfl (Sl.shape hv' (List.length_map _)) (by omega))) ?_; refine l_q rfl rfl rfl ((by exact q_load_agg rfl Tryz.underlying108 ti108 rfl rfl (rds_pc (i := i) hv' (by omega)))) ?_; refine l_e rfl rfl rfl (e_alloc rfl ti108 rfl) ?_; rintro _ _ _ ⟨b5, rfl, rfl, rfl⟩; refine l_e0 rfl rfl ((by exact e_store_all rfl ti108 rfl rfl rfl (by exact pcC_ones _) rfl)) ?_; rintro _ _ _ ⟨rfl, rfl⟩; refine l_nil ?_; refine n_then ?_; refine t_cutE (ι := Nat × γ) (fun zz => zz.1 ≤ (evsq l ifs).length ∧ Cd zz.1 zz.2 ∧ Le (II g00) (II zz.2) ∧ (evsq l ifs).drop zz.1 = (((nth l i pc0).t.drop 0).map (fun b => ((⟨b, (nth l i pc0).q⟩ : Ch), kindB (nth l i pc0) ifs b))) ++ evsq (l.drop (i + 1)) ifs) (fun zz => []) [(11, _), (0, _), (1, _), (2, _), (9, _), (10, _), (12, _), (5, _)] (fun zz => (II zz.2)) (fun zz => (row b5 108 (pcC (nth l i pc0)) :: (F ++ G zz.2))) (sub_cons rfl (sub_cons rfl (sub_cons rfl (sub_cons rfl (sub_cons rfl (sub_cons rfl (sub_cons rfl (sub_cons rfl sub_nil)))))))) ?_ ?_
  ·refine t_seq ?_; refine t_region ?_; refine l_q rfl rfl rfl (q_fieldAddr rfl Tryz.underlying108 rfl rfl ti4 rfl rfl) ?_; refine l_q rfl rfl rfl ((by exact q_load_row rfl Tryz.underlying4 rfl rfl (by rfl))) ?_; refine l_q rfl rfl rfl (q_move rfl rfl) ?_; refine l_split (t := 17) rfl (fun hs0 => ?_) (fun hs0 => ?_)
   ·try simp at hs0
    refine l_qg (wanted_g rfl rfl rfl rfl) rfl rfl (q_move rfl rfl) ?_; refine l_qg (wanted_g rfl rfl rfl rfl) rfl rfl (q_build (pl := [(_, _), (_, _)]) (cs := (chC ⟨0, false⟩).toArray) rfl Tryz.underlying88 ti88 ⟨rfl, ⟨_, _, ti5⟩, rfl, ⟨_, _, ti4⟩, trivial⟩ rfl rfl) ?_
    have hq := hdr
    rw [evsq_drop (l := l) (i := i) ifs hc0, evq, if_pos hs0] at hq; refine l_yield (i := n) g (wanted_g rfl rfl rfl rfl) rfl rfl rfl rfl rfl hY (evV_at (x := (⟨0, false⟩, 1)) hq) hcd rfl (fun g hcd hle => ?_) (fun g hcx hle => ?_)
    ·replace hJ := hJ.trans hle
     refine l_qg (wanted_g rfl rfl rfl rfl) rfl rfl (q_not rfl rfl) ?_; refine l_q rfl rfl rfl (q_pick rfl rfl rfl rfl) ?_; refine l_nil ?_; refine n_then ?_; refine t_cond rfl (fun hc1 => ?_) (fun hc1 => ?_)
     ·try simp at hc1
     ·try simp at hc1
      refine t_skip ?_; refine n_cut ((n + 1, g)) ?_ (sub_nil) (sub_cons rfl (sub_cons rfl (sub_cons rfl (sub_cons rfl (sub_cons rfl (sub_cons rfl (sub_cons rfl (sub_cons rfl sub_nil)))))))) (fun _ h => by try dsimp only; exact subC_st h)
      ·try dsimp only
       exact ⟨(drop_step hq).1, hcd, hJ, (drop_step hq).2.2⟩
    ·replace hJ := hJ.trans hle
     refine l_qg (wanted_g rfl rfl rfl rfl) rfl rfl (q_not rfl rfl) ?_; refine l_q rfl rfl rfl (q_pick rfl rfl rfl rfl) ?_; refine l_nil ?_; refine n_then ?_; refine t_cond rfl (fun hc2 => ?_) (fun hc2 => ?_)
     ·try simp at hc2
      refine t_ret ?_; refine n_ret_then ?_; refine n_ret_block ?_; refine n_ret_then ?_; refine n_ret_then ?_; refine n_ret_block ?_; refine n_ret0 rfl (fun w' hw => ?_); exact ⟨_, rfl, g, .inr ⟨n + 1, by rw [List.length_map]; exact (drop_step hq).1, hcx⟩, hJ, hw0.rebase (subC_st hw)⟩
     ·try simp at hc2
   ·try simp at hs0
    refine l_skip rfl rfl rfl rfl rfl rfl rfl ?_; refine l_skip rfl rfl rfl rfl rfl rfl rfl ?_; refine l_skip rfl rfl rfl rfl rfl rfl rfl ?_; refine l_skip rfl rfl rfl rfl rfl rfl rfl ?_; refine l_q rfl rfl rfl (q_pick rfl rfl rfl rfl) ?_; refine l_nil ?_; refine n_then ?_; refine t_cond rfl (fun hc3 => ?_) (fun hc3 => ?_)
    ·try simp at hc3
    ·try simp at hc3
     refine t_skip ?_; refine n_cut ((n, g)) ?_ (sub_nil) (sub_cons rfl (sub_cons rfl (sub_cons rfl (sub_cons rfl (sub_cons rfl (sub_cons rfl (sub_cons rfl (sub_cons rfl sub_nil)))))))) (fun _ h => by try dsimp only; exact subC_st h)
     ·try dsimp only
      refine ⟨hn, hcd, hJ, ?_⟩
      rw [evsq_drop (l := l) (i := i) ifs hc0, evq, if_neg (by simp [hs0])] at hdr; exact hdr
  rintro ⟨n, g⟩ ⟨hn, hcd, hJ, hdr⟩
  try dsimp only at *
  refine t_seq ?_; refine t_region ?_; refine l_q rfl rfl rfl (q_fieldAddr rfl Tryz.underlying108 rfl rfl ti9 rfl rfl) ?_; refine l_q rfl rfl rfl ((by exact q_load_row rfl Tryz.underlying9 rfl rfl (by rfl))) ?_; refine l_q rfl rfl rfl (q_len_str rfl Tryz.underlying9 rfl) ?_; refine l_q rfl rfl rfl (q_move rfl rfl) ?_; refine l_nil ?_; refine n_then ?_; refine t_block ?_; refine t_loopE (ι := Nat × Nat × γ) (fun zz => zz.1 ≤ (nth l i pc0).t.length ∧ zz.2.1 ≤ (evsq l ifs).length ∧ Cd zz.2.1 zz.2.2 ∧ Le (II g00) (II zz.2.2) ∧ (evsq l ifs).drop zz.2.1 = (((nth l i pc0).t.drop zz.1).map (fun b => ((⟨b, (nth l i pc0).q⟩ : Ch), kindB (nth l i pc0) ifs b))) ++ evsq (l.drop (i + 1)) ifs) (fun zz => (nth l i pc0).t.length - zz.1) (fun zz => [(26, .int .i64 (zz.1 : Int))]) [(11, _), (0, _), (1, _), (2, _), (9, _), (10, _), (12, _), (5, _), (25, _)] (fun zz => (II zz.2.2)) (fun zz => (row b5 108 (pcC (nth l i pc0)) :: (F ++ G zz.2.2))) (0, n, g) ?_ (sub_cons rfl sub_nil) (sub_cons rfl (sub_cons rfl (sub_cons rfl (sub_cons rfl (sub_cons rfl (sub_cons rfl (sub_cons rfl (sub_cons rfl (sub_cons rfl sub_nil))))))))) (fun _ h => subC_st h) ?_
  ·try dsimp only
   exact ⟨Nat.zero_le _, hn, hcd, hJ, hdr⟩
  rintro ⟨k, n, g⟩ ⟨hk, hn, hcd, hJ, hdr⟩
  try dsimp only at *
  have hv' := hv0.mono hJ
  refine t_seq ?_; refine t_region ?_; refine l_q rfl rfl rfl (q_lss rfl rfl rfl) ?_; refine l_nil ?_; refine n_then ?_; refine t_seq ?_; refine t_cond rfl (fun hc4 => ?_) (fun hc4 => ?_)
  ·try simp at hc4
   have hkl : k < (nth l i pc0).t.length := by omega
   refine t_skip ?_; refine n_then ?_; refine t_seq ?_; refine t_block ?_; refine t_seq ?_; refine t_region ?_; refine l_q rfl rfl rfl (q_move rfl rfl) ?_; refine l_q rfl rfl rfl (q_assign rfl rfl) ?_; refine l_nil ?_; refine n_then ?_; refine t_seq ?_; refine t_draw [7, 8] [] [row b5 108 (pcC (nth l i pc0))] mo (by kernel_rfl) (fun _ _ _ _ _ h => h) ?_; refine r_q0 0 (by kernel_rfl) rfl (Le.refl _) rfl rfl rfl (fun _ hI => q_fieldAddr rfl Tryz.underlying108 rfl rfl ti9 rfl rfl) ?_; refine r_q0 1 (by kernel_rfl) rfl (Le.refl _) rfl rfl rfl (fun _ hI => (by exact q_load_row rfl Tryz.underlying9 rfl rfl (by rfl))) ?_; refine r_q0 2 (by kernel_rfl) rfl (Le.refl _) rfl rfl rfl (fun _ hI => q_move rfl rfl) ?_; refine r_q0 3 (by kernel_rfl) rfl (Le.refl _) rfl rfl rfl (fun _ hI => (by exact q_index_strN rfl Tryz.underlying9 rfl rfl (by omega))) ?_; refine r_q0 4 (by kernel_rfl) rfl (Le.refl _) rfl rfl rfl (fun _ hI => q_fieldAddr rfl Tryz.underlying108 rfl rfl ti4 rfl rfl) ?_; refine r_q0 5 (by kernel_rfl) rfl (Le.refl _) rfl rfl rfl (fun _ hI => (by exact q_load_row rfl Tryz.underlying4 rfl rfl (by rfl))) ?_; refine r_q0 6 (by kernel_rfl) rfl (Le.refl _) rfl rfl rfl (fun _ hI => q_build (pl := [(_, _), (_, _)]) (cs := (chC ⟨nth (nth l i pc0).t k 0, (nth l i pc0).q⟩).toArray) rfl Tryz.underlying88 ti88 ⟨rfl, ⟨_, _, ti5⟩, rfl, ⟨_, _, ti4⟩, trivial⟩ rfl rfl) ?_; refine r_e 7 (by kernel_rfl) (by kernel_rfl) rfl (Le.refl _) rfl rfl rfl (e_alloc rfl ti88 rfl) ?_
   rintro _ _ _ ⟨b7, rfl, rfl, rfl⟩; refine ⟨Le.refl _, .inr SubC.sub, ?_⟩; refine r_e0 8 (by kernel_rfl) (by kernel_rfl) rfl (Le.refl _) rfl rfl ((by exact e_store_all rfl ti88 rfl rfl rfl (by exact chC_ones _) rfl)) ?_; rintro _ _ _ ⟨rfl, rfl⟩; refine ⟨Le.refl _, .inr SubC.sub, ?_⟩; refine r_end (by kernel_rfl) ?_; refine n_then ?_; refine t_seq ?_; refine t_region ?_; refine l_q rfl rfl rfl (q_assign rfl rfl) ?_; refine l_nil ?_; refine n_then ?_; refine t_cutE (ι := Nat) (fun zz => zz = kindB (nth l i pc0) ifs (nth (nth l i pc0).t k 0)) (fun zz => [(8, .int .i64 (zz : Int))]) [(26, _), (11, _), (0, _), (1, _), (2, _), (9, _), (10, _), (12, _), (5, _), (25, _), (27, _), (6, _), (7, _)] (fun zz => (II g)) (fun zz => (row b7 88 (chC ⟨nth (nth l i pc0).t k 0, (nth l i pc0).q⟩) :: row b5 108 (pcC (nth l i pc0)) :: (F ++ G g))) (sub_cons rfl (sub_cons rfl (sub_cons rfl (sub_cons rfl (sub_cons rfl (sub_cons rfl (sub_cons rfl (sub_cons rfl (sub_cons rfl (sub_cons rfl (sub_cons rfl (sub_cons rfl (sub_cons rfl sub_nil))))))))))))) ?_ ?_
   ·refine t_seq ?_; refine t_qreg ?_; refine s_q rfl rfl rfl (q_fieldAddr rfl Tryz.underlying108 rfl rfl ti4 rfl rfl) ?_; refine s_q rfl rfl rfl ((by exact q_load_row rfl Tryz.underlying4 rfl rfl (by rfl))) ?_; refine s_q rfl rfl rfl (q_move rfl rfl) ?_
    refine s_and2 3 2 38 42 41 _ _ rfl rfl rfl rfl rfl rfl (fun h42 => by
      try simp at h42
      refine s_g rfl rfl rfl rfl rfl rfl (q_fieldAddr rfl Tryz.underlying108 rfl rfl ti4 rfl rfl) ?_; refine s_g rfl rfl rfl rfl rfl rfl ((by exact q_load_row rfl Tryz.underlying4 rfl rfl (by rfl))) ?_; refine s_g rfl rfl rfl rfl rfl rfl (q_not rfl rfl) ?_; exact s_val rfl
     ) (wanted_n rfl) rfl rfl rfl ?_
    refine s_q rfl rfl rfl (q_move rfl rfl) ?_
    refine s_and2 5 7 43 49 48 _ _ rfl rfl rfl rfl rfl rfl (fun h49 => by
      try simp at h49
      refine s_g rfl rfl rfl rfl rfl rfl ((by exact q_load rfl Tryz.underlying9 rfl rfl (rd_imm (hb3.mono hJ)))) ?_; refine s_g rfl rfl rfl rfl rfl rfl (q_fieldAddr rfl Tryz.underlying88 rfl rfl ti5 rfl rfl) ?_; refine s_g rfl rfl rfl rfl rfl rfl ((by exact q_load_row rfl Tryz.underlying5 rfl rfl (by rfl))) ?_; refine s_g rfl rfl rfl rfl rfl rfl (quiet_call rfl rfl rfl Tryz.func56 (by kernel_rfl) rfl ((fun w _ => indexByte_pure _ _ w))) ?_; refine s_g rfl rfl rfl rfl rfl rfl (q_geq rfl rfl rfl) ?_; exact s_val rfl
     ) (wanted_n rfl) rfl rfl rfl ?_
    refine s_done ?_; refine n_then ?_; refine t_cond rfl (fun hc5 => ?_) (fun hc5 => ?_)
    ·refine t_seq ?_; refine t_region ?_; refine l_q rfl rfl rfl (q_assign rfl rfl) ?_; refine l_nil ?_; refine n_then ?_; refine t_seq ?_; refine t_region ?_; refine l_q rfl rfl rfl (q_fieldAddr rfl Tryz.underlying88 rfl rfl ti5 rfl rfl) ?_; refine l_q rfl rfl rfl ((by exact q_load_row rfl Tryz.underlying5 rfl rfl (by rfl))) ?_; refine l_q rfl rfl rfl (quiet_call rfl rfl rfl Tryz.func56 (by kernel_rfl) rfl ((fun w _ => indexByte_pure _ _ w))) ?_; refine l_q rfl rfl rfl (q_geq rfl rfl rfl) ?_; refine l_nil ?_; refine n_then ?_; refine t_cond rfl (fun hc6 => ?_) (fun hc6 => ?_)
     ·refine t_region ?_; refine l_q rfl rfl rfl (q_assign rfl rfl) ?_; refine l_nil ?_; refine n_cut (2) ?_ (sub_cons rfl sub_nil) (sub_cons rfl (sub_cons rfl (sub_cons rfl (sub_cons rfl (sub_cons rfl (sub_cons rfl (sub_cons rfl (sub_cons rfl (sub_cons rfl (sub_cons rfl (sub_cons rfl (sub_cons rfl (sub_cons rfl sub_nil))))))))))))) (fun _ h => by try dsimp only; exact subC_st h)
      ·try dsimp only
       have h5 : ((nth l i pc0).s && !(nth l i pc0).q && decide (0 ≤ Lib.indexByte ifs (nth (nth l i pc0).t k 0))) = true := hc5
       rw [indexByte_has] at h5
       have h6 : decide (0 ≤ Lib.indexByte [32, 9, 10] (nth (nth l i pc0).t k 0)) = true := hc6
       rw [indexByte_has, soft_has] at h6
       unfold kindB; rw [if_pos h5, if_pos h6]
     ·refine t_skip ?_; refine n_cut (3) ?_ (sub_cons rfl sub_nil) (sub_cons rfl (sub_cons rfl (sub_cons rfl (sub_cons rfl (sub_cons rfl (sub_cons rfl (sub_cons rfl (sub_cons rfl (sub_cons rfl (sub_cons rfl (sub_cons rfl (sub_cons rfl (sub_cons rfl sub_nil))))))))))))) (fun _ h => by try dsimp only; exact subC_st h)
      ·try dsimp only
       have h5 : ((nth l i pc0).s && !(nth l i pc0).q && decide (0 ≤ Lib.indexByte ifs (nth (nth l i pc0).t k 0))) = true := hc5
       rw [indexByte_has] at h5
       have h6 : decide (0 ≤ Lib.indexByte [32, 9, 10] (nth (nth l i pc0).t k 0)) = false := hc6
       rw [indexByte_has, soft_has] at h6
       unfold kindB; rw [if_pos h5, if_neg (by simp [h6])]
    ·refine t_skip ?_; refine n_cut (0) ?_ (sub_cons rfl sub_nil) (sub_cons rfl (sub_cons rfl (sub_cons rfl (sub_cons rfl (sub_cons rfl (sub_cons rfl (sub_cons rfl (sub_cons rfl (sub_cons rfl (sub_cons rfl (sub_cons rfl (sub_cons rfl (sub_cons rfl sub_nil))))))))))))) (fun _ h => by try dsimp only; exact subC_st h)
     ·try dsimp only
      have h5 : ((nth l i pc0).s && !(nth l i pc0).q && decide (0 ≤ Lib.indexByte ifs (nth (nth l i pc0).t k 0))) = false := hc5
      rw [indexByte_has] at h5
      unfold kindB; rw [if_neg (by simp [h5])]
   rintro wh hwh
   try dsimp only at *
   refine t_seq ?_; refine t_region ?_; refine l_q rfl rfl rfl (q_move rfl rfl) ?_; refine l_q rfl rfl rfl ((by exact q_load_rowA rfl Tryz.underlying88 ti88 rfl rfl rfl)) ?_; refine l_q rfl rfl rfl (q_move rfl rfl) ?_
   have hq := hdr
   rw [evP_cons2 _ hkl, ← hwh] at hq; refine l_yield (i := n) g (wanted_n rfl) rfl rfl rfl rfl rfl hY (evV_at (x := (⟨nth (nth l i pc0).t k 0, (nth l i pc0).q⟩, wh)) hq) hcd rfl (fun g hcd hle => ?_) (fun g hcx hle => ?_)
   ·replace hJ := hJ.trans hle
    refine l_q rfl rfl rfl (q_not rfl rfl) ?_; refine l_nil ?_; refine n_then ?_; refine t_cond rfl (fun hc7 => ?_) (fun hc7 => ?_)
    ·try simp at hc7
    ·try simp at hc7
     refine t_skip ?_; refine n_block ?_; refine n_then ?_; refine t_region ?_; refine l_q rfl rfl rfl (q_add64 rfl rfl rfl (by omega)) ?_; refine l_q rfl rfl rfl (q_move rfl rfl) ?_; refine l_nil ?_; refine n_roundE ((k + 1, n + 1, g)) ?_ ?_ (sub_cons rfl sub_nil) (sub_cons rfl (sub_cons rfl (sub_cons rfl (sub_cons rfl (sub_cons rfl (sub_cons rfl (sub_cons rfl (sub_cons rfl (sub_cons rfl sub_nil))))))))) (fun _ h => by try dsimp only; exact subC_st h)
     ·try dsimp only
      exact ⟨(show k + 1 ≤ _ by omega), (drop_step hq).1, hcd, hJ, (drop_step hq).2.2⟩
     ·try dsimp only
      show (nth l i pc0).t.length - (k + 1) < (nth l i pc0).t.length - k; omega
   ·replace hJ := hJ.trans hle
    refine l_q rfl rfl rfl (q_not rfl rfl) ?_; refine l_nil ?_; refine n_then ?_; refine t_cond rfl (fun hc8 => ?_) (fun hc8 => ?_)
    ·try simp at hc8
     refine t_ret ?_; refine n_ret_block ?_; refine n_ret_then ?_; refine n_ret_then ?_; refine n_ret_block ?_; refine n_ret_block ?_; refine n_ret_then ?_; refine n_ret_then ?_; refine n_ret_block ?_; refine n_ret0 rfl (fun w' hw => ?_); exact ⟨_, rfl, g, .inr ⟨n + 1, by rw [List.length_map]; exact (drop_step hq).1, hcx⟩, hJ, hw0.rebase (subC_st hw)⟩
    ·try simp at hc8
  ·try simp at hc4
   refine t_exit ?_; refine n_exit_then ?_; refine n_exit_then ?_; refine n_exit_block ?_; refine n_block ?_; refine n_then ?_; refine t_region ?_; refine l_q rfl rfl rfl (q_add64 rfl rfl rfl (by omega)) ?_; refine l_q rfl rfl rfl (q_move rfl rfl) ?_; refine l_nil ?_; refine n_roundE ((i + 1, n, g)) ?_ ?_ (sub_cons rfl sub_nil) (sub_cons rfl (sub_cons rfl (sub_cons rfl (sub_cons rfl (sub_cons rfl sub_nil))))) (fun _ h => by try dsimp only; exact subC_st h)
   ·try dsimp only
    refine ⟨(show i + 1 ≤ _ by omega), hn, hcd, hJ, ?_⟩
    rw [show (nth l i pc0).t.drop k = [] from List.drop_of_length_le (by omega)] at hdr; exact hdr
   ·try dsimp only
    show l.length - (i + 1) < l.length - i; omega
 ·try simp at hc0
  refine t_exit ?_; refine n_exit_then ?_; refine n_exit_then ?_; refine n_exit_block ?_; refine n_end0 rfl (fun w' hw => ?_); rw [show l.drop i = [] from List.drop_of_length_le (by omega)] at hdr; exact ⟨_, rfl, g, .inl (by rw [List.length_map, ← drop_end hdr hn]; exact hcd), hJ, hw0.rebase (subC_st hw)⟩
set_option maxRecDepth 10000 in
theorem end_calls (b : Nat) (vo vc : Value) (bg sf lg s : Bool) (us : List Value) (cur : List Ch) (I : Look) (F : List HA) (w0 w : World) (hub : us.length ≤ 2000000000000) (hw0 : St w0 I (row b 131 [vo, vc, .bool bg, .bool sf, .bool lg] :: tvec 47 1 oneC vo us :: tvec 88 2 chC vc cur :: F) w) : Calls Tryz.prog 53 [.pointer (some ⟨b, 0, none⟩), .bool s].toArray w (fun e w' => ∃ v, e = .returned v ∧ ∃ I' H', EndPost b vc lg s us cur I F v I' H' ∧ St w I' H' w') := by
 refine enter Tryz.func53 rfl Tryz.ntmps53 rfl (hw0.self) ?_; refine t_seq ?_; refine t_region ?_; refine l_quietHead 13 ?_; refine s_q rfl rfl rfl (q_move rfl rfl) ?_; refine s_q rfl rfl rfl (q_move rfl rfl) ?_; refine s_q rfl rfl rfl (q_nilCheck rfl rfl) ?_; refine s_q rfl rfl rfl (q_fieldAddr rfl Tryz.underlying131 rfl rfl ti4 rfl rfl) ?_; refine s_q rfl rfl rfl (q_load_row rfl Tryz.underlying4 rfl rfl (by rfl)) ?_; refine s_q rfl rfl rfl (q_move rfl rfl) ?_
 refine s_or2 6 5 9 16 15 _ _ rfl rfl rfl rfl rfl rfl (fun h16 => by
   try simp at h16
   refine s_g rfl rfl rfl rfl rfl rfl (q_move rfl rfl) ?_; refine s_g rfl rfl rfl rfl rfl rfl (q_nilCheck rfl rfl) ?_; refine s_g rfl rfl rfl rfl rfl rfl (q_fieldAddr rfl Tryz.underlying131 rfl rfl ti47 rfl rfl) ?_; refine s_g rfl rfl rfl rfl rfl rfl (q_load_row rfl Tryz.underlying47 rfl rfl (by rfl)) ?_; refine s_g rfl rfl rfl rfl rfl rfl ((by exact q_lenV rfl Tryz.underlying47 rfl)) ?_; refine s_g rfl rfl rfl rfl rfl rfl (q_gtr rfl rfl rfl) ?_; exact s_val rfl
  ) (wanted_n rfl) rfl rfl rfl ?_
 refine s_list ?_; refine l_q rfl rfl rfl (q_nilCheck rfl rfl) ?_; refine l_q rfl rfl rfl (q_fieldAddr rfl Tryz.underlying131 rfl rfl ti4 rfl rfl) ?_; refine l_e0 rfl rfl (e_storeS rfl ti4 rfl rfl (by exact ⟨rfl, rfl⟩) rfl (by rfl)) ?_; rintro _ _ _ ⟨rfl, rfl⟩; refine l_heap (H' := row b 131 [vo, vc, .bool bg, .bool sf, .bool (lg || decide ((4096 : Int) < (cur.length : Int)))] :: tvec 47 1 oneC vo us :: tvec 88 2 chC vc cur :: F) ?_ (fun _ h => h); refine l_nil ?_; refine n_then ?_; refine t_seq ?_; refine t_freezeT (f := chC) (l := cur) vc (fun _ => rfl) (fun J hJ hcur => ?_); refine t_draw [9, 10, 13] [13] [row b 131 [vo, vc, .bool bg, .bool sf, .bool (lg || decide ((4096 : Int) < (cur.length : Int)))]] mo (by kernel_rfl) (fun _ _ _ _ _ h => h) ?_; refine r_q0 0 (by kernel_rfl) rfl (Le.refl _) rfl rfl rfl (fun _ hI => q_move rfl rfl) ?_; refine r_q0 1 (by kernel_rfl) rfl (Le.refl _) rfl rfl rfl (fun _ hI => q_move rfl rfl) ?_; refine r_q0 2 (by kernel_rfl) rfl (Le.refl _) rfl rfl rfl (fun _ hI => q_nilCheck rfl rfl) ?_; refine r_q0 3 (by kernel_rfl) rfl (Le.refl _) rfl rfl rfl (fun _ hI => q_fieldAddr rfl Tryz.underlying131 rfl rfl ti80 rfl rfl) ?_; refine r_q0 4 (by kernel_rfl) rfl (Le.refl _) rfl rfl rfl (fun _ hI => q_load_row rfl Tryz.underlying80 rfl rfl (by rfl)) ?_; refine r_q1 5 (by kernel_rfl) rfl (Le.refl _) rfl rfl rfl (q_move rfl rfl) ?_; refine r_q1 6 (by kernel_rfl) rfl (Le.refl _) rfl rfl rfl (q_nilCheck rfl rfl) ?_
 refine r_q1 7 (by kernel_rfl) rfl (Le.refl _) rfl rfl rfl (q_fieldAddr rfl Tryz.underlying131 rfl rfl ti47 rfl rfl) ?_; refine r_q1 8 (by kernel_rfl) rfl (Le.refl _) rfl rfl rfl (q_load_row rfl Tryz.underlying47 rfl rfl (by rfl)) ?_; refine r_e 9 (by kernel_rfl) (by kernel_rfl) rfl (Le.refl _) rfl rfl rfl (e_buildSlice1 rfl Tryz.underlying80 ti47 rfl rfl rfl (by exact One.cells hcur.one) rfl) ?_; rintro _ _ _ ⟨b28, rfl, rfl, rfl⟩; refine ⟨Le.refl _, .inr SubC.sub, ?_⟩; refine r_e 10 (by kernel_rfl) (by kernel_rfl) rfl (Le.refl _) rfl rfl rfl (e_appendT (f := oneC) (c := vc) rfl Tryz.underlying80 ti47 rfl rfl rfl rfl rfl rfl rfl (ones1 hcur.one) (by simp only [maxLen]; omega) (by omega)) ?_; rintro v29 _ _ ⟨rfl, rfl⟩; refine ⟨Le.refl _, .inr SubC.sub, ?_⟩; refine r_one v29 (fun hone => ?_); refine r_q0 11 (by kernel_rfl) rfl (Le.refl _) rfl rfl rfl (fun _ hI => q_nilCheck rfl rfl) ?_; refine r_q0 12 (by kernel_rfl) rfl (Le.refl _) rfl rfl rfl (fun _ hI => q_fieldAddr rfl Tryz.underlying131 rfl rfl ti80 rfl rfl) ?_; refine r_e0 13 (by kernel_rfl) (by kernel_rfl) rfl (Le.refl _) rfl rfl (e_storeS rfl ti80 rfl rfl (by assumption) rfl (by rfl)) ?_; rintro _ _ _ ⟨rfl, rfl⟩; refine ⟨Le.refl _, .inl rfl, ?_⟩; refine r_end (by kernel_rfl) ?_; refine n_then ?_; refine t_region ?_; refine l_q rfl rfl rfl (q_move rfl rfl) ?_; refine l_q rfl rfl rfl (q_move rfl rfl) ?_; refine l_q rfl rfl rfl (q_move rfl rfl) ?_; refine l_q rfl rfl rfl (q_move rfl rfl) ?_
 refine l_q rfl rfl rfl (q_nilCheck rfl rfl) ?_; refine l_q rfl rfl rfl (q_fieldAddr rfl Tryz.underlying131 rfl rfl ti47 rfl rfl) ?_; refine l_e0 rfl rfl (e_storeS rfl ti47 rfl rfl (by exact ⟨rfl, rfl⟩) rfl (by rfl)) ?_; rintro _ _ _ ⟨rfl, rfl⟩; refine l_q rfl rfl rfl (q_nilCheck rfl rfl) ?_; refine l_q rfl rfl rfl (q_fieldAddr rfl Tryz.underlying131 rfl rfl ti4 rfl rfl) ?_; refine l_e0 rfl rfl (e_storeS rfl ti4 rfl rfl (by exact ⟨rfl, rfl⟩) rfl (by rfl)) ?_; rintro _ _ _ ⟨rfl, rfl⟩; refine l_q rfl rfl rfl (q_nilCheck rfl rfl) ?_; refine l_q rfl rfl rfl (q_fieldAddr rfl Tryz.underlying131 rfl rfl ti4 rfl rfl) ?_; refine l_e0 rfl rfl (e_storeS rfl ti4 rfl rfl (by exact ⟨rfl, rfl⟩) rfl (by rfl)) ?_; rintro _ _ _ ⟨rfl, rfl⟩; refine l_nil ?_; refine n_end0 rfl (fun w' hw => ?_); refine ⟨_, rfl, J, _, ⟨hJ, hcur, v29, rfl⟩, ?_⟩
 have hw2 : St w J (row b 131 [v29, .slice none 0 0, .bool false, .bool s, .bool (lg || decide ((4096 : Int) < (cur.length : Int)))] :: tvec 47 1 oneC v29 (us ++ [vc]) :: row b28 47 [vc] :: F) w' := hw
 exact subC_st (st_nilT 88 2 chC hw2)
set_option maxRecDepth 10000 in
theorem bytes_calls (vl : Value) (ifs : List UInt8) (I : Look) (F : List HA) (w0 w : World) (hvl : One vl) (hw0 : St w0 I F w) : Calls Tryz.prog 52 [vl, str ifs].toArray w (fun e w' => ∃ v, e = .returned v ∧ ∃ I' H', BytesPost vl ifs I F v I' H' ∧ St w I' H' w') := by
 refine enter Tryz.func52 rfl Tryz.ntmps52 rfl (hw0.self) ?_; refine t_seq ?_; refine t_region ?_; refine l_e rfl rfl rfl (e_box rfl rfl (by exact One.cells (by assumption))) ?_; rintro _ _ _ ⟨b2, rfl, rfl, rfl⟩; refine l_e rfl rfl rfl (e_box rfl rfl (by rfl)) ?_; rintro _ _ _ ⟨b3, rfl, rfl, rfl⟩; refine l_q rfl rfl rfl (q_assign rfl rfl) ?_; refine l_nil ?_; refine n_then ?_; refine t_seq ?_; refine t_freezeRow b2 (fun J hJ h2 => ?_); refine t_freezeRow b3 (fun J3 hJ3 h3 => ?_); refine t_region ?_; refine l_q rfl rfl rfl (q_makeFunc rfl rfl rfl) ?_; refine l_q rfl rfl rfl (q_assign rfl rfl) ?_; refine l_nil ?_; refine n_then ?_; refine t_ret ?_; refine n_ret1 rfl rfl (fun w' hw => ?_); exact ⟨_, rfl, J3, _, ⟨hJ.trans hJ3, rfl, b2, b3, rfl, (h2 0 _ rfl).mono hJ3, h3 0 _ rfl⟩, hw⟩
end Go.Tri

/-
 Fields out of pieces.
-/
namespace Go.Tri
open Go.Proofs Go.RowKit
set_option maxRecDepth 10000 in
theorem fields_calls (vl : Value) (l : List Pc) (ifs : List UInt8) (I0 : Look) (F0 : List HA) (w0 w : World) (hll : l.length ≤ 4611686018427387904) (hpl : ∀ p ∈ l, p.t.length ≤ 4611686018427387904) (htot : tot l ≤ 1000000000000) (hv : Sl I0 3 vl (l.map pcC)) (hw0 : St w0 I0 F0 w) : Calls Tryz.prog 32 [vl, str ifs].toArray w fun e w' => ∃ v, e = .returned v ∧ ∃ I' H', FieldsPost l ifs I0 F0 v I' H' ∧ St w I' H' w' := by
 refine enterMN Tryz.func32 rfl Tryz.ntmps32 rfl (hw0.self) ?_; refine t_seq ?_; refine t_region ?_; refine l_q rfl rfl rfl (q_assign rfl rfl) ?_; refine l_q rfl rfl rfl (q_assign rfl rfl) ?_; refine l_nil ?_; refine n_then ?_; refine t_seq ?_; refine t_region ?_; refine l_q rfl rfl rfl (q_build (pl := [(_, _), (_, _), (_, _), (_, _), (_, _)]) (cs := ([.slice none 0 0, .slice none 0 0, .bool false, .bool false, .bool false]).toArray) rfl Tryz.underlying131 ti131 ⟨rfl, ⟨_, _, ti80⟩, rfl, ⟨_, _, ti47⟩, rfl, ⟨_, _, ti4⟩, rfl, ⟨_, _, ti4⟩, rfl, ⟨_, _, ti4⟩, trivial⟩ rfl rfl) ?_; refine l_e rfl rfl rfl (e_box rfl rfl rfl) ?_; rintro _ _ _ ⟨b10, rfl, rfl, rfl⟩; refine l_e rfl rfl rfl (e_alloc rfl ti129 rfl) ?_; rintro _ _ _ ⟨b6, rfl, rfl, rfl⟩; refine l_e0 rfl rfl (e_storeS rfl ti129 rfl rfl (by exact ⟨rfl, rfl⟩) rfl (by (simp only [List.set_cons_succ, List.set_cons_zero]; rfl))) ?_; rintro _ _ _ ⟨rfl, rfl⟩; refine l_heap (H' := row b6 129 [.pointer (some ⟨b10, 0, none⟩)] :: _) ?_ (fun _ h => h); refine l_nil ?_; refine n_then ?_; refine t_seq ?_; refine t_seq ?_; refine t_region ?_; refine l_q rfl rfl rfl (q_move rfl rfl) ?_; refine l_q rfl rfl rfl (q_move rfl rfl) ?_; refine l_e rfl rfl rfl (eff_call rfl rfl rfl Tryz.func52 (by kernel_rfl) rfl (fun w hw => bytes_calls vl ifs _ _ _ w hv.one hw)) ?_; rintro _ J0 _ ⟨hJ00, rfl, b2, b3, rfl, hb2, hb3⟩; refine l_nil ?_; refine n_then ?_; refine t_block ?_
 refine t_range (γ := Value × Value × Look × List Value × FSt × Bool) (bytes_iter l ifs vl b2 b3 hll hpl) rfl rfl Tryz.func82 (by kernel_rfl) rfl (fun nn zz => Le J0 zz.2.2.1 ∧ RowsOf zz.2.2.1 zz.2.2.2.1 zz.2.2.2.2.1.out ∧ zz.2.2.2.2.1 = (((evsq l ifs).take nn).map toEv).foldl stepF startF ∧ (zz.2.2.2.2.1.begun = false → zz.2.2.2.2.1.cur = []) ∧ zz.2.2.2.2.2 = longB zz.2.2.2.2.1.out ∧ zz.2.2.2.2.1.cur.length + zz.2.2.2.2.1.out.length + cntN ((evsq l ifs).drop nn) ≤ tot l) (fun _ _ => False) F0 (fun zz TT => row b6 129 [.pointer (some ⟨b10, 0, none⟩)] :: row b10 131 [zz.1, zz.2.1, .bool zz.2.2.2.2.1.begun, .bool zz.2.2.2.2.1.soft, .bool zz.2.2.2.2.2] :: tvec 47 1 oneC zz.1 zz.2.2.2.1 :: tvec 88 2 chC zz.2.1 zz.2.2.2.2.1.cur :: TT) (fun _ _ => rfl) (fun zz => zz.2.2.1) [(0, _), (1, _), (4, _), (5, _), (6, _), (13, _)] (sub_cons rfl (sub_cons rfl (sub_cons rfl (sub_cons rfl (sub_cons rfl (sub_cons rfl sub_nil)))))) (.slice none 0 0, .slice none 0 0, J0, [], startF, false) ?_ ?_ ?_ ?_ rfl ?_ ?_ ?_ (fun _ _ _ h => h.elim)
 ·exact ⟨Le.refl _, ⟨rfl, fun _ _ _ h => by cases h⟩, rfl, fun _ => rfl, rfl, by show 0 + 0 + cntN (evsq l ifs) ≤ tot l; rw [cntN_evsq]; omega⟩
 ·exact ⟨hb2, hb3, hv.mono hJ00⟩
 ·exact Le.refl _
 ·dsimp only [startF]; exact fun _ h => subC_st (st_nilT 47 1 oneC (st_nilT 88 2 chC h))
 ·intro vs hvs; obtain ⟨x, _, rfl⟩ := List.mem_map.1 hvs; rfl
 ·intro bl ready busy done dfr nn vs gg w0r FF hi hinv hrs hbz; obtain ⟨vo, vc, J, us, f, lg⟩ := gg; obtain ⟨hJ, hus, hff, hcu, hlg, hpot⟩ := hinv
  try dsimp only at *
  obtain ⟨c, k, rfl, hlt, hdr, htk⟩ := evV_inv hi; rw [hdr, cntN_cons] at hpot; dsimp only at hpot
  have hul := hus.1
  refine t_seq ?_; refine t_region ?_; refine l_e rfl rfl rfl (e_alloc rfl ti88 rfl) ?_; rintro _ _ _ ⟨b7, rfl, rfl, rfl⟩; refine l_e0 rfl rfl ((by exact e_store_all rfl ti88 rfl rfl rfl (by exact chC_ones _) rfl)) ?_; rintro _ _ _ ⟨rfl, rfl⟩; refine l_nil ?_; refine n_then ?_; refine t_region ?_; refine l_q rfl rfl rfl (q_assign rfl rfl) ?_; refine l_nil ?_; refine n_begin (by rfl) hrs ?_; refine t_block ?_; refine t_block ?_; refine t_seq ?_; refine t_region ?_; refine l_q rfl rfl rfl (q_move rfl rfl) ?_; refine l_q rfl rfl rfl (q_eql rfl rfl rfl) ?_; refine l_q rfl rfl rfl (q_assign rfl rfl) ?_; refine l_nil ?_; refine n_then ?_; refine t_cond rfl (fun hc0 => ?_) (fun hc0 => ?_)
  ·try simp at hc0
   have hc0 : k = 1 := by omega
   rw [if_pos hc0] at hpot; refine t_draw [4, 7] [] [row b6 129 [.pointer (some ⟨b10, 0, none⟩)]] mo (by kernel_rfl) (fun _ _ _ _ _ h => h) ?_; refine r_q1 0 (by kernel_rfl) rfl (Le.refl _) rfl rfl rfl (q_load_row rfl Tryz.underlying129 rfl rfl (by rfl)) ?_; refine r_q0 1 (by kernel_rfl) rfl (Le.refl _) rfl rfl rfl (fun _ hI => q_load_row rfl Tryz.underlying129 rfl rfl (by rfl)) ?_; refine r_q1 2 (by kernel_rfl) rfl (Le.refl _) rfl rfl rfl (q_nilCheck rfl rfl) ?_; refine r_q1 3 (by kernel_rfl) rfl (Le.refl _) rfl rfl rfl (q_fieldAddr rfl Tryz.underlying131 rfl rfl ti4 rfl rfl) ?_; refine r_e0 4 (by kernel_rfl) (by kernel_rfl) rfl (Le.refl _) rfl rfl (e_storeS rfl ti4 rfl rfl (by exact ⟨rfl, rfl⟩) rfl (by rfl)) ?_; rintro _ _ _ ⟨rfl, rfl⟩; refine ⟨Le.refl _, .inr SubC.sub, ?_⟩; refine r_heap (H' := row b10 131 [vo, vc, .bool true, .bool f.soft, .bool lg] :: _) ?_ (fun _ h => h); refine r_q0 5 (by kernel_rfl) rfl (Le.refl _) rfl rfl rfl (fun _ hI => q_nilCheck rfl rfl) ?_; refine r_q0 6 (by kernel_rfl) rfl (Le.refl _) rfl rfl rfl (fun _ hI => q_fieldAddr rfl Tryz.underlying131 rfl rfl ti4 rfl rfl) ?_; refine r_e0 7 (by kernel_rfl) (by kernel_rfl) rfl (Le.refl _) rfl rfl (e_storeS rfl ti4 rfl rfl (by exact ⟨rfl, rfl⟩) rfl (by rfl)) ?_; rintro _ _ _ ⟨rfl, rfl⟩; refine ⟨Le.refl _, .inr SubC.sub, ?_⟩; refine r_heap (H' := row b10 131 [vo, vc, .bool true, .bool false, .bool lg] :: _) ?_ (fun _ h => h); refine r_end (by kernel_rfl) ?_; refine n_block ?_; refine n_block ?_
   refine n_rnext (fun w' hw' => .inl ⟨rfl, ((vo, vc, J, us, { f with begun := true, soft := false }, lg)), ?_, ?_, ?_⟩)
   ·try dsimp only
    refine ⟨hJ, hus, ?_, by simp, hlg, ?_⟩
    ·rw [fold_step startF htk, ← hff]; simp [toEv, stepF, hc0]
    ·(try simp only [List.length_append, List.length_cons, List.length_nil]); omega
   ·exact Le.refl _
   ·try dsimp only
    exact subC_st hw'
  ·try simp at hc0
   have hc0 : ¬ k = 1 := by omega
   rw [if_neg hc0] at hpot; refine t_seq ?_; refine t_region ?_; refine l_q rfl rfl rfl (q_move rfl rfl) ?_; refine l_q rfl rfl rfl (q_eql rfl rfl rfl) ?_; refine l_q rfl rfl rfl (q_assign rfl rfl) ?_; refine l_nil ?_; refine n_then ?_; refine t_cond rfl (fun hc1 => ?_) (fun hc1 => ?_)
   ·try simp at hc1
    have hc1 : k = 0 := by omega
    refine t_seq ?_; refine t_draw [6, 7, 10] [10] [row b6 129 [.pointer (some ⟨b10, 0, none⟩)], row b7 88 (chC c), row b10 131 [vo, vc, .bool f.begun, .bool f.soft, .bool lg]] mo (by kernel_rfl) (fun _ _ _ _ _ h => h) ?_; refine r_q0 0 (by kernel_rfl) rfl (Le.refl _) rfl rfl rfl (fun _ hI => q_load_row rfl Tryz.underlying129 rfl rfl (by rfl)) ?_; refine r_q0 1 (by kernel_rfl) rfl (Le.refl _) rfl rfl rfl (fun _ hI => q_load_row rfl Tryz.underlying129 rfl rfl (by rfl)) ?_; refine r_q0 2 (by kernel_rfl) rfl (Le.refl _) rfl rfl rfl (fun _ hI => q_nilCheck rfl rfl) ?_; refine r_q0 3 (by kernel_rfl) rfl (Le.refl _) rfl rfl rfl (fun _ hI => q_fieldAddr rfl Tryz.underlying131 rfl rfl ti47 rfl rfl) ?_; refine r_q0 4 (by kernel_rfl) rfl (Le.refl _) rfl rfl rfl (fun _ hI => q_load_row rfl Tryz.underlying47 rfl rfl (by rfl)) ?_; refine r_q1 5 (by kernel_rfl) rfl (Le.refl _) rfl rfl rfl (q_load_rowA rfl Tryz.underlying88 ti88 rfl rfl rfl) ?_; refine r_e 6 (by kernel_rfl) (by kernel_rfl) rfl (Le.refl _) rfl rfl rfl (e_buildSlice1 rfl Tryz.underlying47 ti88 rfl rfl rfl (by rfl) rfl) ?_; rintro _ _ _ ⟨b36, rfl, rfl, rfl⟩; refine ⟨Le.refl _, .inr SubC.sub, ?_⟩; refine r_e 7 (by kernel_rfl) (by kernel_rfl) rfl (Le.refl _) rfl rfl rfl (e_appendT (f := chC) (c := c) rfl Tryz.underlying47 ti88 rfl rfl rfl rfl rfl rfl rfl (by exact chC_ones _) (by simp only [maxLen]; omega) (by omega)) ?_; rintro v37 _ _ ⟨rfl, rfl⟩; refine ⟨Le.refl _, .inr SubC.sub, ?_⟩; refine r_one v37 (fun hone => ?_)
    refine r_q0 8 (by kernel_rfl) rfl (Le.refl _) rfl rfl rfl (fun _ hI => q_nilCheck rfl rfl) ?_; refine r_q0 9 (by kernel_rfl) rfl (Le.refl _) rfl rfl rfl (fun _ hI => q_fieldAddr rfl Tryz.underlying131 rfl rfl ti47 rfl rfl) ?_; refine r_e0 10 (by kernel_rfl) (by kernel_rfl) rfl (Le.refl _) rfl rfl (e_storeS rfl ti47 rfl rfl (by assumption) rfl (by rfl)) ?_; rintro _ _ _ ⟨rfl, rfl⟩; refine ⟨Le.refl _, .inl rfl, ?_⟩; refine r_heap (H' := row b10 131 [vo, v37, .bool f.begun, .bool f.soft, .bool lg] :: _) ?_ (fun _ h => h); refine r_end (by kernel_rfl) ?_; refine n_then ?_; refine t_draw [4, 7] [] [row b6 129 [.pointer (some ⟨b10, 0, none⟩)]] mo (by kernel_rfl) (fun _ _ _ _ _ h => h) ?_; refine r_q1 0 (by kernel_rfl) rfl (Le.refl _) rfl rfl rfl (q_load_row rfl Tryz.underlying129 rfl rfl (by rfl)) ?_; refine r_q0 1 (by kernel_rfl) rfl (Le.refl _) rfl rfl rfl (fun _ hI => q_load_row rfl Tryz.underlying129 rfl rfl (by rfl)) ?_; refine r_q1 2 (by kernel_rfl) rfl (Le.refl _) rfl rfl rfl (q_nilCheck rfl rfl) ?_; refine r_q1 3 (by kernel_rfl) rfl (Le.refl _) rfl rfl rfl (q_fieldAddr rfl Tryz.underlying131 rfl rfl ti4 rfl rfl) ?_; refine r_e0 4 (by kernel_rfl) (by kernel_rfl) rfl (Le.refl _) rfl rfl (e_storeS rfl ti4 rfl rfl (by exact ⟨rfl, rfl⟩) rfl (by rfl)) ?_; rintro _ _ _ ⟨rfl, rfl⟩; refine ⟨Le.refl _, .inr SubC.sub, ?_⟩; refine r_heap (H' := row b10 131 [vo, v37, .bool true, .bool f.soft, .bool lg] :: _) ?_ (fun _ h => h)
    refine r_q0 5 (by kernel_rfl) rfl (Le.refl _) rfl rfl rfl (fun _ hI => q_nilCheck rfl rfl) ?_; refine r_q0 6 (by kernel_rfl) rfl (Le.refl _) rfl rfl rfl (fun _ hI => q_fieldAddr rfl Tryz.underlying131 rfl rfl ti4 rfl rfl) ?_; refine r_e0 7 (by kernel_rfl) (by kernel_rfl) rfl (Le.refl _) rfl rfl (e_storeS rfl ti4 rfl rfl (by exact ⟨rfl, rfl⟩) rfl (by rfl)) ?_; rintro _ _ _ ⟨rfl, rfl⟩; refine ⟨Le.refl _, .inr SubC.sub, ?_⟩; refine r_heap (H' := row b10 131 [vo, v37, .bool true, .bool false, .bool lg] :: _) ?_ (fun _ h => h); refine r_end (by kernel_rfl) ?_; refine n_block ?_; refine n_block ?_; refine n_rnext (fun w' hw' => .inl ⟨rfl, ((vo, v37, J, us, ⟨f.out, f.cur ++ [c], true, false⟩, lg)), ?_, ?_, ?_⟩)
    ·try dsimp only
     refine ⟨hJ, hus, ?_, by simp, hlg, ?_⟩
     ·rw [fold_step startF htk, ← hff]; simp [toEv, stepF, hc0, hc1]
     ·(try simp only [List.length_append, List.length_cons, List.length_nil]); omega
    ·exact Le.refl _
    ·try dsimp only
     exact subC_st hw'
   ·try simp at hc1
    have hc1 : ¬ k = 0 := by omega
    refine t_seq ?_; refine t_region ?_; refine l_q rfl rfl rfl (q_load_row rfl Tryz.underlying129 rfl rfl (by rfl)) ?_; refine l_q rfl rfl rfl (q_nilCheck rfl rfl) ?_; refine l_q rfl rfl rfl (q_fieldAddr rfl Tryz.underlying131 rfl rfl ti4 rfl rfl) ?_; refine l_q rfl rfl rfl (q_load_row rfl Tryz.underlying4 rfl rfl (by rfl)) ?_; refine l_q rfl rfl rfl (q_assign rfl rfl) ?_; refine l_nil ?_; refine n_then ?_; refine t_cond rfl (fun hc2 => ?_) (fun hc2 => ?_)
    ·have hc2 : f.begun = true := hc2
     refine t_region ?_; refine l_q rfl rfl rfl (q_load_row rfl Tryz.underlying129 rfl rfl (by rfl)) ?_; refine l_q rfl rfl rfl (q_move rfl rfl) ?_; refine l_q rfl rfl rfl (q_eql rfl rfl rfl) ?_; refine l_e rfl rfl rfl (eff_call rfl rfl rfl Tryz.func53 (by kernel_rfl) rfl (fun w hw => end_calls b10 vo vc _ _ _ _ us f.cur J _ _ w (by omega) (picks_st3 (row b10 131 [vo, vc, .bool f.begun, .bool f.soft, .bool lg]) (tvec 47 1 oneC vo us) (tvec 88 2 chC vc f.cur) hw))) ?_; rintro _ J2 _ ⟨hJ2, hcur2, vo2, rfl⟩; refine l_nil ?_; refine n_block ?_; refine n_block ?_; refine n_rnext (fun w' hw' => .inl ⟨rfl, ((vo2, .slice none 0 0, J2, us ++ [vc], ⟨f.out ++ [f.cur], [], false, decide ((k : Int) = 2)⟩, (lg || decide ((4096 : Int) < (f.cur.length : Int))))), ?_, ?_, ?_⟩)
     ·try dsimp only
      refine ⟨hJ.trans hJ2, (hus.mono hJ2).snoc hcur2, ?_, by simp, by rw [longB_snoc, hlg], ?_⟩
      ·rw [fold_step startF htk, ← hff]; by_cases h2 : k = 2 <;> simp [toEv, stepF, hc0, hc1, hc2, h2]; omega
      ·(try simp only [List.length_append, List.length_cons, List.length_nil]); omega
     ·exact hJ2
     ·try dsimp only
      exact subC_st hw'
    ·have hc2 : f.begun = false := hc2
     refine t_seq ?_; refine t_region ?_; refine l_q rfl rfl rfl (q_move rfl rfl) ?_; refine l_q rfl rfl rfl (q_eql rfl rfl rfl) ?_; refine l_q rfl rfl rfl (q_assign rfl rfl) ?_; refine l_nil ?_; refine n_then ?_; refine t_cond rfl (fun hc3 => ?_) (fun hc3 => ?_)
     ·try simp at hc3
      have hc3 : k = 2 := by omega
      refine t_skip ?_; refine n_block ?_; refine n_block ?_; refine n_rnext (fun w' hw' => .inl ⟨rfl, ((vo, vc, J, us, f, lg)), ?_, ?_, ?_⟩)
      ·try dsimp only
       refine ⟨hJ, hus, ?_, hcu, hlg, ?_⟩
       ·rw [fold_step startF htk, ← hff]; simp [toEv, stepF, hc0, hc1, hc2, hc3]
       ·(try simp only [List.length_append, List.length_cons, List.length_nil]); omega
      ·exact Le.refl _
      ·try dsimp only
       exact subC_st hw'
     ·try simp at hc3
      have hc3 : ¬ k = 2 := by omega
      refine t_seq ?_; refine t_region ?_; refine l_q rfl rfl rfl (q_load_row rfl Tryz.underlying129 rfl rfl (by rfl)) ?_; refine l_q rfl rfl rfl (q_nilCheck rfl rfl) ?_; refine l_q rfl rfl rfl (q_fieldAddr rfl Tryz.underlying131 rfl rfl ti4 rfl rfl) ?_; refine l_q rfl rfl rfl (q_load_row rfl Tryz.underlying4 rfl rfl (by rfl)) ?_; refine l_q rfl rfl rfl (q_assign rfl rfl) ?_; refine l_nil ?_; refine n_then ?_; refine t_cond rfl (fun hc4 => ?_) (fun hc4 => ?_)
      ·have hc4 : f.soft = true := hc4
       refine t_region ?_; refine l_q rfl rfl rfl (q_load_row rfl Tryz.underlying129 rfl rfl (by rfl)) ?_; refine l_q rfl rfl rfl (q_nilCheck rfl rfl) ?_; refine l_q rfl rfl rfl (q_fieldAddr rfl Tryz.underlying131 rfl rfl ti4 rfl rfl) ?_; refine l_e0 rfl rfl (e_storeS rfl ti4 rfl rfl (by exact ⟨rfl, rfl⟩) rfl (by rfl)) ?_; rintro _ _ _ ⟨rfl, rfl⟩; refine l_heap (H' := row b10 131 [vo, vc, .bool f.begun, .bool false, .bool lg] :: _) ?_ (fun _ h => h); refine l_nil ?_; refine n_block ?_; refine n_block ?_; refine n_rnext (fun w' hw' => .inl ⟨rfl, ((vo, vc, J, us, { f with soft := false }, lg)), ?_, ?_, ?_⟩)
       ·try dsimp only
        refine ⟨hJ, hus, ?_, hcu, hlg, ?_⟩
        ·rw [fold_step startF htk, ← hff]; simp [toEv, stepF, hc0, hc1, hc2, hc3, hc4]
        ·(try simp only [List.length_append, List.length_cons, List.length_nil]); omega
       ·exact Le.refl _
       ·try dsimp only
        exact subC_st hw'
      ·have hc4 : f.soft = false := hc4
       refine t_region ?_; refine l_q rfl rfl rfl (q_load_row rfl Tryz.underlying129 rfl rfl (by rfl)) ?_; refine l_e rfl rfl rfl (eff_call rfl rfl rfl Tryz.func53 (by kernel_rfl) rfl (fun w hw => end_calls b10 vo vc _ _ _ _ us f.cur J _ _ w (by omega) (picks_st3 (row b10 131 [vo, vc, .bool f.begun, .bool f.soft, .bool lg]) (tvec 47 1 oneC vo us) (tvec 88 2 chC vc f.cur) hw))) ?_; rintro _ J2 _ ⟨hJ2, hcur2, vo2, rfl⟩; refine l_nil ?_; refine n_block ?_; refine n_block ?_; refine n_rnext (fun w' hw' => .inl ⟨rfl, ((vo2, .slice none 0 0, J2, us ++ [vc], ⟨f.out ++ [f.cur], [], false, false⟩, (lg || decide ((4096 : Int) < (f.cur.length : Int))))), ?_, ?_, ?_⟩)
       ·try dsimp only
        refine ⟨hJ.trans hJ2, (hus.mono hJ2).snoc hcur2, ?_, by simp, by rw [longB_snoc, hlg], ?_⟩
        ·rw [fold_step startF htk, ← hff]; simp [toEv, stepF, hc0, hc1, hc2, hc3, hc4, hcu hc2]
        ·(try simp only [List.length_append, List.length_cons, List.length_nil]); omega
       ·exact hJ2
       ·try dsimp only
        exact subC_st hw'
 intro bd gg hinv hle; obtain ⟨vo, vc, J, us, f, lg⟩ := gg; obtain ⟨hJ, hus, hff, hcu, hlg, hpot⟩ := hinv
 try dsimp only at *
 have hul := hus.1
 refine n_block ?_; refine n_then ?_; refine t_cutE (ι := Value × Value × Look × List Value × Bool × Bool × Bool) (fun zz => Le J0 zz.2.2.1 ∧ RowsOf zz.2.2.1 zz.2.2.2.1 (fieldsAll l ifs) ∧ zz.2.2.2.2.2.2 = longB (fieldsAll l ifs) ∧ zz.2.2.2.1.length ≤ 1000000000001) (fun zz => []) [(0, _), (1, _), (4, _), (5, _), (6, _), (13, _)] (fun zz => zz.2.2.1) (fun zz => (row b6 129 [.pointer (some ⟨b10, 0, none⟩)] :: row b10 131 [zz.1, zz.2.1, .bool zz.2.2.2.2.1, .bool zz.2.2.2.2.2.1, .bool zz.2.2.2.2.2.2] :: tvec 47 1 oneC zz.1 zz.2.2.2.1 :: obj bd (.deferred (some [])) :: F0)) (sub_cons rfl (sub_cons rfl (sub_cons rfl (sub_cons rfl (sub_cons rfl (sub_cons rfl sub_nil)))))) ?_ ?_
 ·refine t_seq ?_
  have hfin : fieldsAll l ifs = endF f := by rw [hff, List.length_map, List.take_length, evsq_ev]; rfl
  refine t_region ?_; refine l_q rfl rfl rfl (q_load_row rfl Tryz.underlying129 rfl rfl (by rfl)) ?_; refine l_q rfl rfl rfl (q_nilCheck rfl rfl) ?_; refine l_q rfl rfl rfl (q_fieldAddr rfl Tryz.underlying131 rfl rfl ti4 rfl rfl) ?_; refine l_q rfl rfl rfl (q_load_row rfl Tryz.underlying4 rfl rfl (by rfl)) ?_; refine l_nil ?_; refine n_then ?_; refine t_cond rfl (fun hc5 => ?_) (fun hc5 => ?_)
  ·have hc5 : f.begun = true := hc5
   refine t_region ?_; refine l_q rfl rfl rfl (q_load_row rfl Tryz.underlying129 rfl rfl (by rfl)) ?_; refine l_e rfl rfl rfl (eff_call rfl rfl rfl Tryz.func53 (by kernel_rfl) rfl (fun w hw => end_calls b10 vo vc _ _ _ _ us f.cur J _ _ w (by omega) (picks_st3 (row b10 131 [vo, vc, .bool f.begun, .bool f.soft, .bool lg]) (tvec 47 1 oneC vo us) (tvec 88 2 chC vc f.cur) hw))) ?_; rintro _ J2 _ ⟨hJ2, hcur2, vo2, rfl⟩; refine l_nil ?_; refine n_cut ((vo2, .slice none 0 0, J2, us ++ [vc], false, false, (lg || decide ((4096 : Int) < (f.cur.length : Int))))) ?_ (sub_nil) (sub_cons rfl (sub_cons rfl (sub_cons rfl (sub_cons rfl (sub_cons rfl (sub_cons rfl sub_nil)))))) (fun _ h => by try dsimp only; exact subC_st h)
   ·try dsimp only
    refine ⟨hJ.trans hJ2, ?_, ?_, by (try simp only [List.length_append, List.length_cons, List.length_nil]); omega⟩
    ·rw [hfin, endF, if_pos hc5]; exact (hus.mono hJ2).snoc hcur2
    ·rw [hfin, endF, if_pos hc5, longB_snoc, hlg]
  ·have hc5 : f.begun = false := hc5
   refine t_skip ?_; refine n_cut ((vo, vc, J, us, f.begun, f.soft, lg)) ?_ (sub_nil) (sub_cons rfl (sub_cons rfl (sub_cons rfl (sub_cons rfl (sub_cons rfl (sub_cons rfl sub_nil)))))) (fun _ h => by try dsimp only; exact subC_st h)
   ·try dsimp only
    refine ⟨hJ, ?_, ?_, by omega⟩
    ·rw [hfin, endF, if_neg (by simp [hc5])]; exact hus
    ·rw [hfin, endF, if_neg (by simp [hc5]), hlg]
 rintro ⟨vo, vc, J, us, bg, sf, lg⟩ ⟨hJ, hus, hlg, hub⟩
 try dsimp only at *
 refine t_seq ?_; refine t_seq ?_; refine t_qreg ?_; refine s_q rfl rfl rfl (q_load_row rfl Tryz.underlying129 rfl rfl (by rfl)) ?_; refine s_q rfl rfl rfl (q_nilCheck rfl rfl) ?_; refine s_q rfl rfl rfl (q_fieldAddr rfl Tryz.underlying131 rfl rfl ti4 rfl rfl) ?_; refine s_q rfl rfl rfl (q_load_row rfl Tryz.underlying4 rfl rfl (by rfl)) ?_; refine s_q rfl rfl rfl (q_move rfl rfl) ?_
 refine s_or2 6 4 76 83 82 _ _ rfl rfl rfl rfl rfl rfl (fun h83 => by
   try simp at h83
   refine s_g rfl rfl rfl rfl rfl rfl (q_load_row rfl Tryz.underlying129 rfl rfl (by rfl)) ?_; refine s_g rfl rfl rfl rfl rfl rfl (q_nilCheck rfl rfl) ?_; refine s_g rfl rfl rfl rfl rfl rfl (q_fieldAddr rfl Tryz.underlying131 rfl rfl ti80 rfl rfl) ?_; refine s_g rfl rfl rfl rfl rfl rfl (q_load_row rfl Tryz.underlying80 rfl rfl (by rfl)) ?_; refine s_g rfl rfl rfl rfl rfl rfl ((by exact q_lenV rfl Tryz.underlying80 rfl)) ?_; refine s_g rfl rfl rfl rfl rfl rfl (q_gtr rfl rfl rfl) ?_; exact s_val rfl
  ) (wanted_n rfl) rfl rfl rfl ?_
 refine s_done ?_; refine n_then ?_; refine t_cond rfl (fun hc6 => ?_) (fun hc6 => ?_)
 ·refine t_seq ?_; refine t_region ?_; refine l_q rfl rfl rfl (q_assign rfl rfl) ?_; refine l_q rfl rfl rfl (q_assign rfl rfl) ?_; refine l_nil ?_; refine n_then ?_; refine t_ret ?_; refine n_ret_then ?_; refine n_np_ret ?_; refine n_ret2M (bs := [bd]) rfl rfl rfl (fun w' hw => ?_); refine ⟨_, rfl, J, F0, ⟨hJ00.trans hJ, rfl, _, _, rfl, ?_⟩, subC_st hw⟩
  have h6 : (lg || decide ((200 : Int) < (us.length : Int))) = true := hc6
  rw [if_neg]
  ·exact ⟨rfl, rfl⟩
  rw [okFields_long, ← hlg]
  have hul := hus.1
  intro h
  simp at h h6
  rcases h6 with h6 | h6
  ·rw [h6] at h; simp at h
  ·omega
 ·refine t_skip ?_; refine n_then ?_; refine t_seq ?_; refine t_freezeT (f := oneC) (l := us) vo (fun _ => rfl) (fun J3 hJ3 hvo => ?_); refine t_region ?_; refine l_q rfl rfl rfl (q_load_row rfl Tryz.underlying129 rfl rfl (by rfl)) ?_; refine l_q rfl rfl rfl (q_nilCheck rfl rfl) ?_; refine l_q rfl rfl rfl (q_fieldAddr rfl Tryz.underlying131 rfl rfl ti80 rfl rfl) ?_; refine l_q rfl rfl rfl (q_load_row rfl Tryz.underlying80 rfl rfl (by rfl)) ?_; refine l_q rfl rfl rfl (q_assign rfl rfl) ?_; refine l_q rfl rfl rfl (q_assign rfl rfl) ?_; refine l_nil ?_; refine n_then ?_; refine t_ret ?_; refine n_np_ret ?_; refine n_ret2M (bs := [bd]) rfl rfl rfl (fun w' hw => ?_); refine ⟨_, rfl, J3, F0, ⟨(hJ00.trans hJ).trans hJ3, rfl, _, _, rfl, ?_⟩, subC_st hw⟩
  have h6 : (lg || decide ((200 : Int) < (us.length : Int))) = false := hc6
  have hul := hus.1
  rw [if_pos]
  ·exact ⟨rfl, us, hvo, hus.mono hJ3⟩
  rw [okFields_long, ← hlg]
  simp at h6 ⊢
  exact ⟨h6.1, by omega⟩
end Go.Tri

/-
 A field as a text.
-/
namespace Go.Tri
open Go.Proofs Go.RowKit
set_option maxRecDepth 10000 in
theorem text_pure (v : Value) (l : List Ch) (w : World) (hl : l.length ≤ 2000000000000) (hv : Sl (look w) 2 v (l.map chC)) : Pure Tryz.prog 34 [v] w (str (chText l)) := by
 refine enter Tryz.func34 rfl Tryz.ntmps34 rfl (St.start w (look w) (Le.refl _)) ?_; refine t_seq ?_; refine t_region ?_; refine l_q rfl rfl rfl (q_assign rfl rfl) ?_; refine l_nil ?_; refine n_then ?_; refine t_seq ?_; refine t_region ?_; refine l_e rfl rfl rfl (e_alloc rfl ti106 rfl) ?_; rintro _ _ _ ⟨b3, rfl, rfl, rfl⟩; refine l_nil ?_; refine n_then ?_; refine t_seq ?_; refine t_seq ?_; refine t_region ?_; refine l_q rfl rfl rfl (q_move rfl rfl) ?_; refine l_q rfl rfl rfl ((by exact q_len rfl Tryz.underlying47 rfl (Sl.lenOf hv (List.length_map _)))) ?_; refine l_q rfl rfl rfl (q_move rfl rfl) ?_; refine l_nil ?_; refine n_then ?_; refine t_block ?_; refine t_loopE (ι := Nat × Option Addr × Value) (fun zz => zz.1 ≤ l.length ∧ (zz.2.1 = none ∨ zz.2.1 = some ⟨b3, 0, none⟩) ∧ BufOk zz.2.2 (chText (l.take zz.1))) (fun zz => l.length - zz.1) (fun zz => [(8, .int .i64 (zz.1 : Int))]) [(0, _), (2, _), (3, _), (6, _), (7, _)] (fun zz => look w) (fun zz => [row b3 106 [.pointer zz.2.1, zz.2.2], tvec 5 1 byC zz.2.2 (chText (l.take zz.1))]) (0, none, .slice none 0 0) ?_ (sub_cons rfl sub_nil) (sub_cons rfl (sub_cons rfl (sub_cons rfl (sub_cons rfl (sub_cons rfl sub_nil))))) (fun _ h => (show St _ _ [row b3 106 [.pointer none, .slice none 0 0], tvec 5 1 byC (.slice none 0 0) []] _ from subC_st (st_nilT 5 1 byC h))) ?_
 ·try dsimp only
  exact ⟨Nat.zero_le _, .inl rfl, .inl rfl⟩
 rintro ⟨k, p, vb⟩ ⟨hk, hp, hok⟩
 try dsimp only at *
 refine t_seq ?_; refine t_region ?_; refine l_q rfl rfl rfl (q_lss rfl rfl rfl) ?_; refine l_nil ?_; refine n_then ?_; refine t_seq ?_; refine t_cond rfl (fun hc0 => ?_) (fun hc0 => ?_)
 ·try simp at hc0
  refine t_skip ?_; refine n_then ?_; refine t_seq ?_; refine t_block ?_; refine t_seq ?_; refine t_region ?_; refine l_q rfl rfl rfl ((by exact q_indexAddrN rfl Tryz.underlying47 ti88 rfl rfl (Sl.shape hv (List.length_map _)) (by omega))) ?_; refine l_q rfl rfl rfl ((by exact q_load_agg rfl Tryz.underlying88 ti88 rfl rfl (rds_ch (i := k) hv (by omega)))) ?_; refine l_e rfl rfl rfl (e_alloc rfl ti88 rfl) ?_; rintro _ _ _ ⟨b5, rfl, rfl, rfl⟩; refine l_e0 rfl rfl ((by exact e_store_all rfl ti88 rfl rfl rfl (by exact chC_ones _) rfl)) ?_; rintro _ _ _ ⟨rfl, rfl⟩; refine l_nil ?_; refine n_then ?_; refine t_region ?_; refine l_q rfl rfl rfl (q_fieldAddr rfl Tryz.underlying88 rfl rfl ti5 rfl rfl) ?_; refine l_q rfl rfl rfl (q_load_row rfl Tryz.underlying5 rfl rfl (by rfl)) ?_; refine l_e rfl rfl rfl (eff_call rfl rfl rfl Tryz.func42 (by kernel_rfl) rfl (fun w hw => writeByte_calls b3 p vb (chText (l.take k)) (nth l k ⟨0, false⟩).b _ _ _ w hp (by simp [chText]; omega) (picks_st2 (row b3 106 [.pointer p, vb]) (tvec 5 1 byC vb (chText (l.take k))) hw))) ?_; rintro _ _ _ ⟨rfl, rfl, vb2, rfl⟩; refine l_nil ?_; refine n_block ?_; refine n_then ?_; refine t_region ?_; refine l_q rfl rfl rfl (q_add64 rfl rfl rfl (by omega)) ?_; refine l_q rfl rfl rfl (q_move rfl rfl) ?_; refine l_nil ?_
  refine n_roundE ((k + 1, some ⟨b3, 0, none⟩, vb2)) ?_ ?_ (sub_cons rfl sub_nil) (sub_cons rfl (sub_cons rfl (sub_cons rfl (sub_cons rfl (sub_cons rfl sub_nil))))) (fun _ h => by dsimp only; rw [chText_snoc l k (by omega)]; exact subC_st h)
  ·try dsimp only
   exact ⟨(show k + 1 ≤ _ by omega), .inr rfl, .inr (by show chText (l.take (k + 1)) ≠ []; rw [chText_snoc l k (by omega)]; simp)⟩
  ·try dsimp only
   show l.length - (k + 1) < l.length - k; omega
 ·try simp at hc0
  refine t_exit ?_; refine n_exit_then ?_; refine n_exit_then ?_; refine n_exit_block ?_; refine n_then ?_; refine t_seq ?_; refine t_region ?_; refine l_e rfl rfl rfl (eff_call rfl rfl rfl Tryz.func44 (by kernel_rfl) rfl (fun w hw => builderString_calls b3 (.pointer p) vb (chText (l.take k)) _ _ _ w hok (by simp [chText]; omega) (picks_st2 (row b3 106 [.pointer p, vb]) (tvec 5 1 byC vb (chText (l.take k))) hw))) ?_; rintro _ _ _ ⟨rfl, rfl, rfl⟩; refine l_q rfl rfl rfl (q_assign rfl rfl) ?_; refine l_nil ?_; refine n_then ?_; refine t_ret ?_; refine n_ret1 rfl rfl (fun w' hw => ?_); refine ⟨?_, hw.below⟩; rw [List.take_of_length_le (by omega)]
end Go.Tri

/-
 Does a pattern mean more than itself?
-/
namespace Go.Tri
open Go.Proofs Go.RowKit
set_option maxRecDepth 10000 in
theorem wildC_pure (c : Ch) (w : World) : Pure Tryz.prog 55 [.agg (chC c).toArray] w (.bool (wildC c)) := by
 refine enter Tryz.func55 rfl Tryz.ntmps55 rfl (St.start w (look w) (Le.refl _)) ?_; refine t_seq ?_; refine t_region ?_; refine l_e rfl rfl rfl (e_box rfl rfl rfl) ?_; rintro _ _ _ ⟨b1, rfl, rfl, rfl⟩; refine l_q rfl rfl rfl (q_assign rfl rfl) ?_; refine l_nil ?_; refine n_then ?_; refine t_seq ?_; refine t_qreg ?_; refine s_q rfl rfl rfl (q_fieldAddr rfl Tryz.underlying88 rfl rfl ti4 rfl rfl) ?_; refine s_q rfl rfl rfl (q_load_row rfl Tryz.underlying4 rfl rfl (by rfl)) ?_; refine s_q rfl rfl rfl (q_not rfl rfl) ?_; refine s_q rfl rfl rfl (q_move rfl rfl) ?_
 refine s_and2 4 3 6 11 10 _ _ rfl rfl rfl rfl rfl rfl (fun h11 => by
   try simp at h11
   refine s_g rfl rfl rfl rfl rfl rfl (q_fieldAddr rfl Tryz.underlying88 rfl rfl ti5 rfl rfl) ?_; refine s_g rfl rfl rfl rfl rfl rfl (q_load_row rfl Tryz.underlying5 rfl rfl (by rfl)) ?_; refine s_g rfl rfl rfl rfl rfl rfl (quiet_call rfl rfl rfl Tryz.func56 (by kernel_rfl) rfl ((fun w _ => indexByte_pure [42, 63, 91] _ w))) ?_; refine s_g rfl rfl rfl rfl rfl rfl (q_geq rfl rfl rfl) ?_; exact s_val rfl
  ) (wanted_n rfl) rfl rfl rfl ?_
 refine s_q rfl rfl rfl (q_assign rfl rfl) ?_; refine s_done ?_; refine n_then ?_; refine t_ret ?_; refine n_ret1 rfl rfl (fun w' hw => ?_); refine ⟨?_, hw.below⟩
 rw [indexByte_has]; rfl
set_option maxRecDepth 10000 in
theorem wIdx_pure (v : Value) (p : List Ch) (w : World) (hp : p.length ≤ 4611686018427387904) (hv : Sl (look w) 2 v (p.map chC)) : Pure Tryz.prog 83 [v, .func (.func 55) #[] #[]] w (.int .i64 (wIdx p 0)) := by
 refine enter Tryz.func83 rfl Tryz.ntmps83 rfl (St.start w (look w) (Le.refl _)) ?_; refine t_seq ?_; refine t_region ?_; refine l_q rfl rfl rfl (q_assign rfl rfl) ?_; refine l_nil ?_; refine n_then ?_; refine t_seq ?_; refine t_seq ?_; refine t_region ?_; refine l_q rfl rfl rfl (q_move rfl rfl) ?_; refine l_q rfl rfl rfl ((by exact q_len rfl Tryz.underlying47 rfl (Sl.lenOf hv (List.length_map _)))) ?_; refine l_q rfl rfl rfl (q_move rfl rfl) ?_; refine l_nil ?_; refine n_then ?_; refine t_block ?_; refine t_loopE (ι := Nat) (fun zz => zz ≤ p.length ∧ wIdx p 0 = wIdx (p.drop zz) zz) (fun zz => p.length - zz) (fun zz => [(8, .int .i64 (zz : Int))]) [(0, _), (1, _), (7, _)] (fun zz => look w) (fun zz => []) 0 ?_ (sub_cons rfl sub_nil) (sub_cons rfl (sub_cons rfl (sub_cons rfl sub_nil))) (fun _ h => subC_st h) ?_
 ·try dsimp only
  exact ⟨Nat.zero_le _, by simp⟩
 rintro i ⟨hi, hx⟩
 try dsimp only at *
 refine t_seq ?_; refine t_region ?_; refine l_q rfl rfl rfl (q_lss rfl rfl rfl) ?_; refine l_nil ?_; refine n_then ?_; refine t_seq ?_; refine t_cond rfl (fun hc0 => ?_) (fun hc0 => ?_)
 ·try simp at hc0
  refine t_skip ?_; refine n_then ?_; refine t_seq ?_; refine t_block ?_; refine t_seq ?_; refine t_region ?_; refine l_q rfl rfl rfl (q_move rfl rfl) ?_; refine l_q rfl rfl rfl (q_assign rfl rfl) ?_; refine l_nil ?_; refine n_then ?_; refine t_seq ?_; refine t_region ?_; refine l_q rfl rfl rfl (q_move rfl rfl) ?_; refine l_q rfl rfl rfl (q_move rfl rfl) ?_; refine l_q rfl rfl rfl (q_move rfl rfl) ?_; refine l_q rfl rfl rfl ((by exact q_indexAddrN rfl Tryz.underlying47 ti88 rfl rfl (Sl.shape hv (List.length_map _)) (by omega))) ?_; refine l_q rfl rfl rfl ((by exact q_load_agg rfl Tryz.underlying88 ti88 rfl rfl (rds_ch0 (i := i) hv (by omega)))) ?_; refine l_q rfl rfl rfl (quiet_call rfl rfl rfl Tryz.func55 (by kernel_rfl) rfl ((fun w _ => wildC_pure (nth p i ch0) w))) ?_; refine l_nil ?_; refine n_then ?_; refine t_cond rfl (fun hc1 => ?_) (fun hc1 => ?_)
  ·refine t_seq ?_; refine t_region ?_; refine l_q rfl rfl rfl (q_move rfl rfl) ?_; refine l_q rfl rfl rfl (q_assign rfl rfl) ?_; refine l_nil ?_; refine n_then ?_; refine t_ret ?_; refine n_ret_block ?_; refine n_ret_then ?_; refine n_ret_then ?_; refine n_ret_block ?_; refine n_ret_then ?_; refine n_ret1 rfl rfl (fun w' hw => ?_); refine ⟨?_, hw.below⟩
   rw [hx, drop_nth ch0 (by omega), wIdx, hc1]; rfl
  ·refine t_skip ?_; refine n_block ?_; refine n_then ?_; refine t_region ?_; refine l_q rfl rfl rfl (q_add64 rfl rfl rfl (by omega)) ?_; refine l_q rfl rfl rfl (q_move rfl rfl) ?_; refine l_nil ?_; refine n_roundE (i + 1) ?_ ?_ (sub_cons rfl sub_nil) (sub_cons rfl (sub_cons rfl (sub_cons rfl sub_nil))) (fun _ h => by try dsimp only; exact subC_st h)
   ·try dsimp only
    refine ⟨by omega, hx.trans ?_⟩; rw [drop_nth ch0 (by omega), wIdx, hc1]; simp
   ·try dsimp only
    omega
 ·try simp at hc0
  refine t_exit ?_; refine n_exit_then ?_; refine n_exit_then ?_; refine n_exit_block ?_; refine n_then ?_; refine t_seq ?_; refine t_region ?_; refine l_q rfl rfl rfl (q_assign rfl rfl) ?_; refine l_nil ?_; refine n_then ?_; refine t_ret ?_; refine n_ret1 rfl rfl (fun w' hw => ?_); refine ⟨?_, hw.below⟩
  rw [hx, List.drop_of_length_le (by omega)]; rfl
set_option maxRecDepth 10000 in
theorem wCon_pure (v : Value) (p : List Ch) (w : World) (hp : p.length ≤ 4611686018427387904) (hv : Sl (look w) 2 v (p.map chC)) : Pure Tryz.prog 54 [v, .func (.func 55) #[] #[]] w (.bool (wildP p)) := by
 refine enter Tryz.func54 rfl Tryz.ntmps54 rfl (St.start w (look w) (Le.refl _)) ?_; refine t_seq ?_; refine t_region ?_; refine l_q rfl rfl rfl (q_assign rfl rfl) ?_; refine l_nil ?_; refine n_then ?_; refine t_seq ?_; refine t_region ?_; refine l_q rfl rfl rfl (q_move rfl rfl) ?_; refine l_q rfl rfl rfl (q_move rfl rfl) ?_; refine l_q rfl rfl rfl (quiet_call rfl rfl rfl Tryz.func83 (by kernel_rfl) rfl ((fun w hw => wIdx_pure v p w hp (hv.mono (Le.of_st hw))))) ?_; refine l_q rfl rfl rfl (q_geq rfl rfl rfl) ?_; refine l_q rfl rfl rfl (q_assign rfl rfl) ?_; refine l_nil ?_; refine n_then ?_; refine t_ret ?_; refine n_ret1 rfl rfl (fun w' hw => ?_); refine ⟨?_, hw.below⟩; rw [← wIdx_nn p 0]
set_option maxRecDepth 10000 in
theorem wild_pure (v : Value) (p : List Ch) (w : World) (hp : p.length ≤ 4611686018427387904) (hv : Sl (look w) 2 v (p.map chC)) : Pure Tryz.prog 33 [v] w (.bool (wildP p)) := by
 refine enter Tryz.func33 rfl Tryz.ntmps33 rfl (St.start w (look w) (Le.refl _)) ?_; refine t_seq ?_; refine t_region ?_; refine l_q rfl rfl rfl (q_assign rfl rfl) ?_; refine l_nil ?_; refine n_then ?_; refine t_seq ?_; refine t_region ?_; refine l_q rfl rfl rfl (q_move rfl rfl) ?_; refine l_q rfl rfl rfl (quiet_call rfl rfl rfl Tryz.func54 (by kernel_rfl) rfl ((fun w hw => wCon_pure v p w hp (hv.mono (Le.of_st hw))))) ?_; refine l_q rfl rfl rfl (q_assign rfl rfl) ?_; refine l_nil ?_; refine n_then ?_; refine t_ret ?_; refine n_ret1 rfl rfl (fun w' hw => ?_); exact ⟨rfl, hw.below⟩
end Go.Tri
