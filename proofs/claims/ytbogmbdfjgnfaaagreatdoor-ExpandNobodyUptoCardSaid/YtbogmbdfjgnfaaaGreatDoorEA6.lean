/-
  A text more.
-/
import Derived.Test.YtbogmbdfjgnfaaaGreatDoorEA5
namespace Go.Tri
open Go.Proofs Go.RowKit
theorem lit_pos {L : List PE} {t : List UInt8} {q : Bool} (h0 : 0 < L.length) (h : (true && decide (((nth L (L.length - 1) pe0).kind : Int) = 1) && ((nth L (L.length - 1) pe0).q == q)) = true) : litE L t q = L.set (L.length - 1) { nth L (L.length - 1) pe0 with text := (nth L (L.length - 1) pe0).text ++ t } := by
  simp only [Bool.true_and, Bool.and_eq_true, decide_eq_true_eq, beq_iff_eq] at h
  rw [litE, if_pos ⟨List.ne_nil_of_length_pos h0, by omega, h.2⟩]
theorem lit_neg {L : List PE} {t : List UInt8} {q : Bool} (h : (true && decide (((nth L (L.length - 1) pe0).kind : Int) = 1) && ((nth L (L.length - 1) pe0).q == q)) = false) : litE L t q = L ++ [⟨1, t, [], nilV, [], q⟩] := by
  rw [litE, if_neg]
  rintro ⟨_, h1, h2⟩
  rw [h1, h2] at h
  simp at h
set_option maxRecDepth 10000 in
theorem lit_nil (b : Nat) (s : List UInt8) (kd dp : Nat) (v : Value) (L : List PE) (t : List UInt8) (q : Bool) (I : Look) (F : List HA) (w0 w : World) (hn : L.length ≤ 1000000000) (ht : t.length ≤ 1000000000) (h0 : L.length = 0) (hw0 : St w0 I (row b 169 (rdC s kd dp v) :: tvec 148 5 partC v L :: F) w) : Calls Tryz.prog 113 [.pointer (some ⟨b, 0, none⟩), str t, .bool q].toArray w (fun e w' => ∃ v0, e = .returned v0 ∧ ∃ I' H', (I = I' ∧ v0 = .tuple #[] ∧ ∃ v', H' = row b 169 (rdC s kd dp v') :: tvec 148 5 partC v' (litE L t q) :: F) ∧ St w I' H' w') := by
  have hE : litE L t q = L ++ [⟨1, t, [], nilV, [], q⟩] := by rw [litE, if_neg (fun h => h.1 (List.eq_nil_of_length_eq_zero h0))]
  refine enter Tryz.func113 rfl Tryz.ntmps113 rfl (hw0.self) ?_
  refine t_seq ?_
  refine t_seq ?_
  refine t_len v (fun hlv => ?_)
  refine t_region ?_
  refine l_q rfl rfl rfl (q_move rfl rfl) ?_
  refine l_q rfl rfl rfl (q_nilCheck rfl rfl) ?_
  refine l_q rfl rfl rfl (q_fieldAddr rfl Tryz.underlying169 rfl rfl ti167 rfl rfl) ?_
  refine l_q rfl rfl rfl (quiet_call rfl rfl rfl Tryz.func136 (by kernel_rfl) rfl ((fun w hw => top_nil b s kd dp v w (rowed_of hw) (h0 ▸ hlv)))) ?_
  refine l_q rfl rfl rfl (q_assign rfl rfl) ?_
  refine l_nil ?_
  refine n_then ?_
  refine t_seq ?_
  refine t_qreg ?_
  refine s_q rfl rfl rfl (q_move rfl rfl) ?_
  refine s_q rfl rfl rfl (q_neq_pnil rfl (by kernel_rfl) rfl rfl) ?_
  refine s_q rfl rfl rfl (q_move rfl rfl) ?_
  refine s_and2 5 2 13 19 18 _ false rfl rfl rfl rfl rfl rfl (fun h19 => by
      cases h19
    ) (wanted_n rfl) rfl rfl rfl ?_
  refine s_q rfl rfl rfl (q_move rfl rfl) ?_
  refine s_and2 6 9 20 27 26 _ false rfl rfl rfl rfl rfl rfl (fun h27 => by
      cases h27
    ) (wanted_n rfl) rfl rfl rfl ?_
  refine s_done ?_
  refine n_then ?_
  refine t_cond rfl (fun hc0 => ?_) (fun hc0 => ?_)
  · skip
    cases hc0
  · skip
    refine t_skip ?_
    refine n_then ?_
    refine t_draw [8, 9, 11, 14] [11, 14] [row b 169 (rdC s kd dp v)] mo (by kernel_rfl) (fun _ _ _ _ _ h => h) ?_
    refine r_qf 0 (by kernel_rfl) rfl rfl rfl rfl (fun _ => q_move rfl rfl) ?_
    refine r_qf 1 (by kernel_rfl) rfl rfl rfl rfl (fun _ => q_nilCheck rfl rfl) ?_
    refine r_qf 2 (by kernel_rfl) rfl rfl rfl rfl (fun _ => q_fieldAddr rfl Tryz.underlying169 rfl rfl ti167 rfl rfl) ?_
    refine r_q0 3 (by kernel_rfl) rfl (Le.refl _) rfl rfl rfl (fun _ hI => q_load_row rfl Tryz.underlying167 rfl rfl (by rfl)) ?_
    refine r_qf 4 (by kernel_rfl) rfl rfl rfl rfl (fun _ => q_move rfl rfl) ?_
    refine r_qf 5 (by kernel_rfl) rfl rfl rfl rfl (fun _ => q_move rfl rfl) ?_
    refine r_qf 6 (by kernel_rfl) rfl rfl rfl rfl (fun _ => q_build (pl := [(_, _), (_, _), (_, _), (_, _), (_, _)]) (cs := (partC ⟨1, t, [], nilV, [], q⟩).toArray) rfl Tryz.underlying148 ti148 ⟨rfl, ⟨_, _, ti3⟩, rfl, ⟨_, _, ti9⟩, rfl, ⟨_, _, ti9⟩, rfl, ⟨_, _, ti96⟩, rfl, ⟨_, _, ti4⟩, trivial⟩ rfl rfl) ?_
    refine r_qf 7 (by kernel_rfl) rfl rfl rfl rfl (fun _ => (by first | exact q_lenV rfl Tryz.underlying167 rfl | exact q_len rfl Tryz.underlying167 rfl (len_of hlv))) ?_
    refine r_e 8 (by kernel_rfl) (by kernel_rfl) rfl (Le.refl _) rfl rfl rfl (e_buildSlice1 rfl Tryz.underlying167 ti148 rfl rfl rfl (by first | exact One.cells (by assumption) | exact One.cells hone | rfl) rfl) ?_
    rintro _ _ _ ⟨b44, rfl, rfl, rfl⟩
    refine ⟨Le.refl _, .inr SubC.sub, ?_⟩
    refine r_e 9 (by kernel_rfl) (by kernel_rfl) rfl (Le.refl _) rfl rfl rfl (e_appendT (f := partC) (c := pe0) rfl Tryz.underlying167 ti148 rfl rfl rfl rfl rfl rfl rfl (by first | exact partC_ones (I := I) (plR_nil I) | exact byC_ones _ | exact chC_ones _ | exact pcC_ones _ | simp [Value.oneCell', str, u8] | exact ones1 (by assumption)) (by simp only [maxLen]; omega) (by omega)) ?_
    rintro v45 _ _ ⟨rfl, rfl⟩
    refine ⟨Le.refl _, .inr SubC.sub, ?_⟩
    have hlen45 : (L ++ [pe0]).length = L.length + 1 := by simp
    refine r_len v45 (fun hsh45 hone => ?_)
    refine r_qf 10 (by kernel_rfl) rfl rfl rfl rfl (fun _ => (by first | exact q_indexAddrVN rfl Tryz.underlying167 ti148 rfl rfl (by omega) | exact q_indexAddrN rfl Tryz.underlying167 ti148 rfl rfl (hsh45) (by omega) | exact q_indexAddrV rfl Tryz.underlying167 ti148 rfl rfl (by omega) | exact q_indexAddr rfl Tryz.underlying167 ti148 rfl rfl (hsh45) (by omega))) ?_
    refine r_qf 12 (by kernel_rfl) rfl rfl rfl rfl (fun _ => q_nilCheck rfl rfl) ?_
    refine r_qf 13 (by kernel_rfl) rfl rfl rfl rfl (fun _ => q_fieldAddr rfl Tryz.underlying169 rfl rfl ti167 rfl rfl) ?_
    refine r_two 11 14 (by kernel_rfl) (by kernel_rfl) ?_ ?_
    · skip
      refine x_e0 11 rfl rfl (Le.refl _) rfl rfl (e_storeSA (⟨1, t, [], nilV, [], q⟩) rfl ti148 rfl rfl (partC_ones (I := I) (plR_nil I)) (fun _ => rfl) (by simp) (by decide)) ?_
      rintro _ _ _ ⟨rfl, rfl⟩
      refine ⟨Le.refl _, .inl rfl, ?_⟩
      refine r_heap (H' := tvec 148 5 partC v45 (L ++ [⟨1, t, [], nilV, [], q⟩]) :: _) ?_ (fun _ h => by rw [set_snoc] at h; exact h)
      refine r_e0 14 (by kernel_rfl) (by kernel_rfl) rfl (Le.refl _) rfl rfl (e_storeS rfl ti167 rfl rfl (by first | exact ⟨rfl, rfl⟩ | assumption | exact hone) rfl (by first | (simp only [List.set_cons_succ, List.set_cons_zero]; rfl) | rfl)) ?_
      rintro _ _ _ ⟨rfl, rfl⟩
      refine ⟨Le.refl _, .inl rfl, ?_⟩
      refine r_heap (H' := row b 169 (rdC s kd dp v45) :: _) ?_ (fun _ h => h)
      refine r_end (by kernel_rfl) ?_
      refine n_end0 rfl (fun w' hw => ?_)
      -- leaf 0
      rw [hE]
      exact ⟨_, rfl, I, row b 169 (rdC s kd dp v45) :: tvec 148 5 partC v45 (L ++ [⟨1, t, [], nilV, [], q⟩]) :: F, ⟨rfl, rfl, v45, rfl⟩, subC_st hw⟩
    · skip
      refine x_e0 14 rfl rfl (Le.refl _) rfl rfl (e_storeS rfl ti167 rfl rfl (by first | exact ⟨rfl, rfl⟩ | assumption | exact hone) rfl (by first | (simp only [List.set_cons_succ, List.set_cons_zero]; rfl) | rfl)) ?_
      rintro _ _ _ ⟨rfl, rfl⟩
      refine ⟨Le.refl _, .inl rfl, ?_⟩
      refine r_heap (H' := row b 169 (rdC s kd dp v45) :: _) ?_ (fun _ h => h)
      refine r_e0 11 (by kernel_rfl) (by kernel_rfl) rfl (Le.refl _) rfl rfl (e_storeSA (⟨1, t, [], nilV, [], q⟩) rfl ti148 rfl rfl (partC_ones (I := I) (plR_nil I)) (fun _ => rfl) (by simp) (by decide)) ?_
      rintro _ _ _ ⟨rfl, rfl⟩
      refine ⟨Le.refl _, .inl rfl, ?_⟩
      refine r_heap (H' := tvec 148 5 partC v45 (L ++ [⟨1, t, [], nilV, [], q⟩]) :: _) ?_ (fun _ h => by rw [set_snoc] at h; exact h)
      refine r_end (by kernel_rfl) ?_
      refine n_end0 rfl (fun w' hw => ?_)
      -- leaf 1
      rw [hE]
      exact ⟨_, rfl, I, row b 169 (rdC s kd dp v45) :: tvec 148 5 partC v45 (L ++ [⟨1, t, [], nilV, [], q⟩]) :: F, ⟨rfl, rfl, v45, rfl⟩, subC_st hw⟩
set_option maxRecDepth 10000 in
theorem lit_cons (b : Nat) (s : List UInt8) (kd dp : Nat) (v : Value) (L : List PE) (t : List UInt8) (q : Bool) (I : Look) (F : List HA) (w0 w : World) (hn : L.length ≤ 1000000000) (ht : t.length ≤ 1000000000) (h0 : 0 < L.length) (hx : (nth L (L.length - 1) pe0).text.length ≤ 1000000000) (hw0 : St w0 I (row b 169 (rdC s kd dp v) :: tvec 148 5 partC v L :: F) w) : Calls Tryz.prog 113 [.pointer (some ⟨b, 0, none⟩), str t, .bool q].toArray w (fun e w' => ∃ v0, e = .returned v0 ∧ ∃ I' H', (I = I' ∧ v0 = .tuple #[] ∧ ∃ v', H' = row b 169 (rdC s kd dp v') :: tvec 148 5 partC v' (litE L t q) :: F) ∧ St w I' H' w') := by
  refine enter Tryz.func113 rfl Tryz.ntmps113 rfl (hw0.self) ?_
  refine t_seq ?_
  refine t_seq ?_
  refine t_len v (fun hlv => ?_)
  refine t_region ?_
  refine l_q rfl rfl rfl (q_move rfl rfl) ?_
  refine l_q rfl rfl rfl (q_nilCheck rfl rfl) ?_
  refine l_q rfl rfl rfl (q_fieldAddr rfl Tryz.underlying169 rfl rfl ti167 rfl rfl) ?_
  refine l_q rfl rfl rfl (quiet_call rfl rfl rfl Tryz.func136 (by kernel_rfl) rfl ((fun w hw => top_some b s kd dp v L.length w (by omega) h0 (rowed_of hw) hlv))) ?_
  refine l_q rfl rfl rfl (q_assign rfl rfl) ?_
  refine l_nil ?_
  refine n_then ?_
  refine t_seq ?_
  refine t_qreg ?_
  refine s_q rfl rfl rfl (q_move rfl rfl) ?_
  refine s_q rfl rfl rfl (q_neq_pnil rfl (by kernel_rfl) rfl rfl) ?_
  refine s_q rfl rfl rfl (q_move rfl rfl) ?_
  refine s_and2 5 2 13 19 18 _ _ rfl rfl rfl rfl rfl rfl (fun h19 => by
      try simp at h19
      refine s_g rfl rfl rfl rfl rfl rfl (q_move rfl rfl) ?_
      refine s_g rfl rfl rfl rfl rfl rfl (q_nilCheck rfl rfl) ?_
      refine s_g rfl rfl rfl rfl rfl rfl (q_fieldAddr rfl Tryz.underlying148 rfl rfl ti3 rfl rfl) ?_
      refine s_g rfl rfl rfl rfl rfl rfl ((by first | exact q_load_row rfl Tryz.underlying3 rfl rfl (by rfl) | exact q_load_vecF rfl Tryz.underlying3 rfl rfl (vec_at (fo := 0) (f := partC) (d := pe0) (fun _ => rfl) (show L.length - 1 < L.length by omega) rfl) | exact q_load_vecF rfl Tryz.underlying3 rfl rfl (vec_at (fo := 1) (f := partC) (d := pe0) (fun _ => rfl) (show L.length - 1 < L.length by omega) rfl) | exact q_load_vecF rfl Tryz.underlying3 rfl rfl (vec_at (fo := 4) (f := partC) (d := pe0) (fun _ => rfl) (show L.length - 1 < L.length by omega) rfl))) ?_
      refine s_g rfl rfl rfl rfl rfl rfl (q_eql rfl rfl rfl) ?_
      exact s_val rfl
    ) (wanted_n rfl) rfl rfl rfl ?_
  refine s_q rfl rfl rfl (q_move rfl rfl) ?_
  refine s_and2 6 9 20 27 26 _ _ rfl rfl rfl rfl rfl rfl (fun h27 => by
      try simp at h27
      refine s_g rfl rfl rfl rfl rfl rfl (q_move rfl rfl) ?_
      refine s_g rfl rfl rfl rfl rfl rfl (q_nilCheck rfl rfl) ?_
      refine s_g rfl rfl rfl rfl rfl rfl (q_fieldAddr rfl Tryz.underlying148 rfl rfl ti4 rfl rfl) ?_
      refine s_g rfl rfl rfl rfl rfl rfl ((by first | exact q_load_row rfl Tryz.underlying4 rfl rfl (by rfl) | exact q_load_vecF rfl Tryz.underlying4 rfl rfl (vec_at (fo := 0) (f := partC) (d := pe0) (fun _ => rfl) (show L.length - 1 < L.length by omega) rfl) | exact q_load_vecF rfl Tryz.underlying4 rfl rfl (vec_at (fo := 1) (f := partC) (d := pe0) (fun _ => rfl) (show L.length - 1 < L.length by omega) rfl) | exact q_load_vecF rfl Tryz.underlying4 rfl rfl (vec_at (fo := 4) (f := partC) (d := pe0) (fun _ => rfl) (show L.length - 1 < L.length by omega) rfl))) ?_
      refine s_g rfl rfl rfl rfl rfl rfl (q_move rfl rfl) ?_
      refine s_g rfl rfl rfl rfl rfl rfl (q_eql_bool rfl Tryz.underlying4 rfl rfl) ?_
      exact s_val rfl
    ) (wanted_n rfl) rfl rfl rfl ?_
  refine s_done ?_
  refine n_then ?_
  refine t_cond rfl (fun hc0 => ?_) (fun hc0 => ?_)
  · skip
    have hE : litE L t q = L.set (L.length - 1) { nth L (L.length - 1) pe0 with text := (nth L (L.length - 1) pe0).text ++ t } := lit_pos h0 hc0
    refine t_seq ?_
    refine t_region ?_
    refine l_q rfl rfl rfl (q_move rfl rfl) ?_
    refine l_q rfl rfl rfl (q_nilCheck rfl rfl) ?_
    refine l_q rfl rfl rfl (q_fieldAddr rfl Tryz.underlying148 rfl rfl ti9 rfl rfl) ?_
    refine l_q rfl rfl rfl ((by first | exact q_load_row rfl Tryz.underlying9 rfl rfl (by rfl) | exact q_load_vecF rfl Tryz.underlying9 rfl rfl (vec_at (fo := 0) (f := partC) (d := pe0) (fun _ => rfl) (show L.length - 1 < L.length by omega) rfl) | exact q_load_vecF rfl Tryz.underlying9 rfl rfl (vec_at (fo := 1) (f := partC) (d := pe0) (fun _ => rfl) (show L.length - 1 < L.length by omega) rfl) | exact q_load_vecF rfl Tryz.underlying9 rfl rfl (vec_at (fo := 4) (f := partC) (d := pe0) (fun _ => rfl) (show L.length - 1 < L.length by omega) rfl))) ?_
    refine l_q rfl rfl rfl (q_move rfl rfl) ?_
    refine l_q rfl rfl rfl (q_cat rfl rfl rfl (by first | omega | (simp only [List.length_append, List.length_cons, List.length_nil, List.length_take, List.length_drop]; omega))) ?_
    refine l_q rfl rfl rfl (q_nilCheck rfl rfl) ?_
    refine l_q rfl rfl rfl (q_fieldAddr rfl Tryz.underlying148 rfl rfl ti9 rfl rfl) ?_
    refine l_e0 rfl rfl (e_storeT pe0 { nth L (L.length - 1) pe0 with text := (nth L (L.length - 1) pe0).text ++ t } rfl ti9 rfl rfl (by first | exact ⟨rfl, rfl⟩ | assumption) (fun _ => rfl) (by first | omega | (rw [List.length_set]; omega)) rfl rfl) ?_
    rintro _ _ _ ⟨rfl, rfl⟩
    refine l_nil ?_
    refine n_then ?_
    refine t_ret ?_
    refine n_ret_then ?_
    refine n_ret0 rfl (fun w' hw => ?_)
    -- leaf 0
    rw [hE]
    exact ⟨_, rfl, I, _, ⟨rfl, rfl, v, rfl⟩, subC_st hw⟩
  · skip
    have hE : litE L t q = L ++ [⟨1, t, [], nilV, [], q⟩] := lit_neg hc0
    refine t_skip ?_
    refine n_then ?_
    refine t_draw [8, 9, 11, 14] [11, 14] [row b 169 (rdC s kd dp v)] mo (by kernel_rfl) (fun _ _ _ _ _ h => h) ?_
    refine r_qf 0 (by kernel_rfl) rfl rfl rfl rfl (fun _ => q_move rfl rfl) ?_
    refine r_qf 1 (by kernel_rfl) rfl rfl rfl rfl (fun _ => q_nilCheck rfl rfl) ?_
    refine r_qf 2 (by kernel_rfl) rfl rfl rfl rfl (fun _ => q_fieldAddr rfl Tryz.underlying169 rfl rfl ti167 rfl rfl) ?_
    refine r_q0 3 (by kernel_rfl) rfl (Le.refl _) rfl rfl rfl (fun _ hI => (by first | exact q_load_row rfl Tryz.underlying167 rfl rfl (by rfl) | exact q_load_vecF rfl Tryz.underlying167 rfl rfl (vec_at (fo := 0) (f := partC) (d := pe0) (fun _ => rfl) (show L.length - 1 < L.length by omega) rfl) | exact q_load_vecF rfl Tryz.underlying167 rfl rfl (vec_at (fo := 1) (f := partC) (d := pe0) (fun _ => rfl) (show L.length - 1 < L.length by omega) rfl) | exact q_load_vecF rfl Tryz.underlying167 rfl rfl (vec_at (fo := 4) (f := partC) (d := pe0) (fun _ => rfl) (show L.length - 1 < L.length by omega) rfl))) ?_
    refine r_qf 4 (by kernel_rfl) rfl rfl rfl rfl (fun _ => q_move rfl rfl) ?_
    refine r_qf 5 (by kernel_rfl) rfl rfl rfl rfl (fun _ => q_move rfl rfl) ?_
    refine r_qf 6 (by kernel_rfl) rfl rfl rfl rfl (fun _ => q_build (pl := [(_, _), (_, _), (_, _), (_, _), (_, _)]) (cs := (partC ⟨1, t, [], nilV, [], q⟩).toArray) rfl Tryz.underlying148 ti148 ⟨rfl, ⟨_, _, ti3⟩, rfl, ⟨_, _, ti9⟩, rfl, ⟨_, _, ti9⟩, rfl, ⟨_, _, ti96⟩, rfl, ⟨_, _, ti4⟩, trivial⟩ rfl rfl) ?_
    refine r_qf 7 (by kernel_rfl) rfl rfl rfl rfl (fun _ => (by first | exact q_lenV rfl Tryz.underlying167 rfl | exact q_len rfl Tryz.underlying167 rfl (len_of hlv))) ?_
    refine r_e 8 (by kernel_rfl) (by kernel_rfl) rfl (Le.refl _) rfl rfl rfl (e_buildSlice1 rfl Tryz.underlying167 ti148 rfl rfl rfl (by first | exact One.cells (by assumption) | exact One.cells hone | rfl) rfl) ?_
    rintro _ _ _ ⟨b44, rfl, rfl, rfl⟩
    refine ⟨Le.refl _, .inr SubC.sub, ?_⟩
    refine r_e 9 (by kernel_rfl) (by kernel_rfl) rfl (Le.refl _) rfl rfl rfl (e_appendT (f := partC) (c := pe0) rfl Tryz.underlying167 ti148 rfl rfl rfl rfl rfl rfl rfl (by first | exact partC_ones (I := I) (plR_nil I) | exact byC_ones _ | exact chC_ones _ | exact pcC_ones _ | simp [Value.oneCell', str, u8] | exact ones1 (by assumption)) (by simp only [maxLen]; omega) (by omega)) ?_
    rintro v45 _ _ ⟨rfl, rfl⟩
    refine ⟨Le.refl _, .inr SubC.sub, ?_⟩
    have hlen45 : (L ++ [pe0]).length = L.length + 1 := by simp
    refine r_len v45 (fun hsh45 hone => ?_)
    refine r_qf 10 (by kernel_rfl) rfl rfl rfl rfl (fun _ => (by first | exact q_indexAddrVN rfl Tryz.underlying167 ti148 rfl rfl (by omega) | exact q_indexAddrN rfl Tryz.underlying167 ti148 rfl rfl (hsh45) (by omega) | exact q_indexAddrV rfl Tryz.underlying167 ti148 rfl rfl (by omega) | exact q_indexAddr rfl Tryz.underlying167 ti148 rfl rfl (hsh45) (by omega))) ?_
    refine r_qf 12 (by kernel_rfl) rfl rfl rfl rfl (fun _ => q_nilCheck rfl rfl) ?_
    refine r_qf 13 (by kernel_rfl) rfl rfl rfl rfl (fun _ => q_fieldAddr rfl Tryz.underlying169 rfl rfl ti167 rfl rfl) ?_
    refine r_two 11 14 (by kernel_rfl) (by kernel_rfl) ?_ ?_
    · skip
      refine x_e0 11 rfl rfl (Le.refl _) rfl rfl (e_storeSA (⟨1, t, [], nilV, [], q⟩) rfl ti148 rfl rfl (partC_ones (I := I) (plR_nil I)) (fun _ => rfl) (by simp) (by decide)) ?_
      rintro _ _ _ ⟨rfl, rfl⟩
      refine ⟨Le.refl _, .inl rfl, ?_⟩
      refine r_heap (H' := tvec 148 5 partC v45 (L ++ [⟨1, t, [], nilV, [], q⟩]) :: _) ?_ (fun _ h => by rw [set_snoc] at h; exact h)
      refine r_e0 14 (by kernel_rfl) (by kernel_rfl) rfl (Le.refl _) rfl rfl (e_storeS rfl ti167 rfl rfl (by first | exact ⟨rfl, rfl⟩ | assumption | exact hone) rfl (by first | (simp only [List.set_cons_succ, List.set_cons_zero]; rfl) | rfl)) ?_
      rintro _ _ _ ⟨rfl, rfl⟩
      refine ⟨Le.refl _, .inl rfl, ?_⟩
      refine r_heap (H' := row b 169 (rdC s kd dp v45) :: _) ?_ (fun _ h => h)
      refine r_end (by kernel_rfl) ?_
      refine n_end0 rfl (fun w' hw => ?_)
      -- leaf 1
      rw [hE]
      exact ⟨_, rfl, I, row b 169 (rdC s kd dp v45) :: tvec 148 5 partC v45 (L ++ [⟨1, t, [], nilV, [], q⟩]) :: F, ⟨rfl, rfl, v45, rfl⟩, subC_st hw⟩
    · skip
      refine x_e0 14 rfl rfl (Le.refl _) rfl rfl (e_storeS rfl ti167 rfl rfl (by first | exact ⟨rfl, rfl⟩ | assumption | exact hone) rfl (by first | (simp only [List.set_cons_succ, List.set_cons_zero]; rfl) | rfl)) ?_
      rintro _ _ _ ⟨rfl, rfl⟩
      refine ⟨Le.refl _, .inl rfl, ?_⟩
      refine r_heap (H' := row b 169 (rdC s kd dp v45) :: _) ?_ (fun _ h => h)
      refine r_e0 11 (by kernel_rfl) (by kernel_rfl) rfl (Le.refl _) rfl rfl (e_storeSA (⟨1, t, [], nilV, [], q⟩) rfl ti148 rfl rfl (partC_ones (I := I) (plR_nil I)) (fun _ => rfl) (by simp) (by decide)) ?_
      rintro _ _ _ ⟨rfl, rfl⟩
      refine ⟨Le.refl _, .inl rfl, ?_⟩
      refine r_heap (H' := tvec 148 5 partC v45 (L ++ [⟨1, t, [], nilV, [], q⟩]) :: _) ?_ (fun _ h => by rw [set_snoc] at h; exact h)
      refine r_end (by kernel_rfl) ?_
      refine n_end0 rfl (fun w' hw => ?_)
      -- leaf 2
      rw [hE]
      exact ⟨_, rfl, I, row b 169 (rdC s kd dp v45) :: tvec 148 5 partC v45 (L ++ [⟨1, t, [], nilV, [], q⟩]) :: F, ⟨rfl, rfl, v45, rfl⟩, subC_st hw⟩
theorem lit_calls (b : Nat) (s : List UInt8) (kd dp : Nat) (v : Value) (L : List PE) (t : List UInt8) (q : Bool) (I : Look) (F : List HA) (w0 w : World) (hn : L.length ≤ 1000000000) (ht : t.length ≤ 1000000000) (hx : ∀ x ∈ L, x.text.length ≤ 1000000000) (hw0 : St w0 I (row b 169 (rdC s kd dp v) :: tvec 148 5 partC v L :: F) w) : Calls Tryz.prog 113 [.pointer (some ⟨b, 0, none⟩), str t, .bool q].toArray w (fun e w' => ∃ v0, e = .returned v0 ∧ ∃ I' H', (I = I' ∧ v0 = .tuple #[] ∧ ∃ v', H' = row b 169 (rdC s kd dp v') :: tvec 148 5 partC v' (litE L t q) :: F) ∧ St w I' H' w') := by
  rcases Nat.eq_zero_or_pos L.length with h | h
  · exact lit_nil b s kd dp v L t q I F w0 w hn ht h hw0
  · exact lit_cons b s kd dp v L t q I F w0 w hn ht h (hx _ (nth_mem (by omega))) hw0
end Go.Tri
