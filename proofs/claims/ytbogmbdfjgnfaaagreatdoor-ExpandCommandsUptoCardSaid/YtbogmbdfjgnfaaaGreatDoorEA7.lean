/-
  A reader of words: its small steps.
-/
import Derived.Test.YtbogmbdfjgnfaaaGreatDoorEA4
import Derived.Test.YtbogmbdfjgnfaaaGreatDoorPWord7
namespace Go.Tri
open Go.Proofs Go.RowKit
/-- a reader's cells -/
def rdC (s : List UInt8) (kd dp : Nat) (v : Value) : List Value := [str s, .int .i64 (kd : Int), .int .i64 (dp : Int), v]
def topP (v : Value) (n : Nat) : Option Addr := if n = 0 then none else some ⟨(adr v).block, (adr v).off + (n - 1) * 5, none⟩
def ShapeV (v : Value) (n : Nat) : Prop := ∃ A c, v = .slice A n c ∧ (0 < n → ∀ a, A = some a → a.spot = none) ∧ (0 < n → A ≠ none)
set_option maxRecDepth 10000 in
theorem top_pure (b : Nat) (s : List UInt8) (kd dp : Nat) (v : Value) (n : Nat) (w : World) (hn : n ≤ 1000000000) (hb : Rowed w b (rdC s kd dp v)) (hv : ShapeV v n) : Pure Tryz.prog 136 [.pointer (some ⟨b, 3, none⟩)] w (.pointer (topP v n)) := by
  refine enter Tryz.func136 rfl Tryz.ntmps136 rfl (St.start w (look w) (Le.refl _)) ?_
  refine t_seq ?_
  refine t_region ?_
  refine l_q rfl rfl rfl (q_assign rfl rfl) ?_
  refine l_nil ?_
  refine n_then ?_
  refine t_seq ?_
  refine t_seq ?_
  refine t_region ?_
  refine l_q rfl rfl rfl (q_move rfl rfl) ?_
  refine l_q rfl rfl rfl (q_nilCheck rfl rfl) ?_
  refine l_q rfl rfl rfl ((by first | exact q_load_row rfl Tryz.underlying167 rfl rfl (by rfl) | exact q_load rfl Tryz.underlying167 rfl rfl (rd_imm (hb 3 _ rfl)))) ?_
  refine l_q rfl rfl rfl ((by first | exact q_lenV rfl Tryz.underlying167 rfl | exact q_len rfl Tryz.underlying167 rfl (len_of hv))) ?_
  refine l_q rfl rfl rfl (q_eql rfl rfl rfl) ?_
  refine l_nil ?_
  refine n_then ?_
  refine t_cond rfl (fun hc0 => ?_) (fun hc0 => ?_)
  · skip
    try simp at hc0
    have hn0 : n = 0 := by omega
    refine t_seq ?_
    refine t_region ?_
    refine l_q rfl rfl rfl (q_assign rfl rfl) ?_
    refine l_nil ?_
    refine n_then ?_
    refine t_ret ?_
    refine n_ret_then ?_
    refine n_ret1 rfl rfl (fun w' hw => ?_)
    -- leaf 0
    refine ⟨?_, hw.below⟩
    rw [topP, if_pos hn0]
  · skip
    try simp at hc0
    have hn0 : ¬ n = 0 := by omega
    refine t_skip ?_
    refine n_then ?_
    refine t_seq ?_
    refine t_qdraw mo (by kernel_rfl) (fun _ _ _ _ _ h => h) ?_
    refine s_q rfl rfl rfl (q_move rfl rfl) ?_
    refine s_q rfl rfl rfl (q_nilCheck rfl rfl) ?_
    refine s_q rfl rfl rfl ((by first | exact q_load_row rfl Tryz.underlying167 rfl rfl (by rfl) | exact q_load rfl Tryz.underlying167 rfl rfl (rd_imm (hb 3 _ rfl)))) ?_
    refine s_q rfl rfl rfl (q_move rfl rfl) ?_
    refine s_q rfl rfl rfl (q_nilCheck rfl rfl) ?_
    refine s_q rfl rfl rfl ((by first | exact q_load_row rfl Tryz.underlying167 rfl rfl (by rfl) | exact q_load rfl Tryz.underlying167 rfl rfl (rd_imm (hb 3 _ rfl)))) ?_
    refine s_q rfl rfl rfl ((by first | exact q_lenV rfl Tryz.underlying167 rfl | exact q_len rfl Tryz.underlying167 rfl (len_of hv))) ?_
    refine s_q rfl rfl rfl (q_sub64 rfl rfl rfl (by omega)) ?_
    refine s_q rfl rfl rfl ((by first | exact q_indexAddrVN rfl Tryz.underlying167 ti148 rfl rfl (by omega) | exact q_indexAddrN rfl Tryz.underlying167 ti148 rfl rfl (hv) (by omega) | exact q_indexAddrV rfl Tryz.underlying167 ti148 rfl rfl (by omega) | exact q_indexAddr rfl Tryz.underlying167 ti148 rfl rfl (hv) (by omega))) ?_
    refine s_q rfl rfl rfl (q_assign rfl rfl) ?_
    refine s_done ?_
    refine n_then ?_
    refine t_ret ?_
    refine n_ret1 rfl rfl (fun w' hw => ?_)
    -- leaf 1
    refine ⟨?_, hw.below⟩
    rw [topP, if_neg hn0, show ((n : Int) - 1).toNat = n - 1 by omega]
theorem top_nil (b : Nat) (s : List UInt8) (kd dp : Nat) (v : Value) (w : World) (hb : Rowed w b (rdC s kd dp v)) (hv : ShapeV v 0) : Pure Tryz.prog 136 [.pointer (some ⟨b, 3, none⟩)] w (.pointer none) := top_pure b s kd dp v 0 w (by omega) hb hv
theorem top_some (b : Nat) (s : List UInt8) (kd dp : Nat) (v : Value) (n : Nat) (w : World) (hn : n ≤ 1000000000) (h0 : 0 < n) (hb : Rowed w b (rdC s kd dp v)) (hv : ShapeV v n) : Pure Tryz.prog 136 [.pointer (some ⟨b, 3, none⟩)] w (.pointer (some ⟨(adr v).block, (adr v).off + (n - 1) * 5, none⟩)) := by
  have h := top_pure b s kd dp v n w hn hb hv
  rw [topP, if_neg (by omega)] at h
  exact h
set_option maxRecDepth 10000 in
theorem quoted_pure (b : Nat) (s : List UInt8) (kd dp : Nat) (v : Value) (w : World) (hb : Rowed w b (rdC s kd dp v)) : Pure Tryz.prog 114 [.pointer (some ⟨b, 0, none⟩)] w (.bool (decide (kd ≠ 0))) := by
  refine enter Tryz.func114 rfl Tryz.ntmps114 rfl (St.start w (look w) (Le.refl _)) ?_
  refine t_seq ?_
  refine t_region ?_
  refine l_q rfl rfl rfl (q_assign rfl rfl) ?_
  refine l_nil ?_
  refine n_then ?_
  refine t_seq ?_
  refine t_region ?_
  refine l_q rfl rfl rfl (q_move rfl rfl) ?_
  refine l_q rfl rfl rfl (q_nilCheck rfl rfl) ?_
  refine l_q rfl rfl rfl (q_fieldAddr rfl Tryz.underlying169 rfl rfl ti3 rfl rfl) ?_
  refine l_q rfl rfl rfl ((by first | exact q_load_row rfl Tryz.underlying3 rfl rfl (by rfl) | exact q_load rfl Tryz.underlying3 rfl rfl (rd_imm (hb 1 _ rfl)))) ?_
  refine l_q rfl rfl rfl (q_neq rfl rfl rfl) ?_
  refine l_q rfl rfl rfl (q_assign rfl rfl) ?_
  refine l_nil ?_
  refine n_then ?_
  refine t_ret ?_
  refine n_ret1 rfl rfl (fun w' hw => ?_)
  -- leaf 0
  refine ⟨?_, hw.below⟩
  by_cases h : kd = 0
  · subst h; rfl
  · rw [decide_eq_true h, decide_eq_true (by omega)]
end Go.Tri

/-
  A text more.
-/
namespace Go.Tri
open Go.Proofs Go.RowKit
theorem lit_pos {L : List PE} {t : List UInt8} {q : Bool} (h0 : 0 < L.length) (h : (true && decide (((nth L (L.length - 1) pe0).kind : Int) = 1) && ((nth L (L.length - 1) pe0).q == q)) = true) : litE L t q = L.set (L.length - 1) { nth L (L.length - 1) pe0 with text := (nth L (L.length - 1) pe0).text ++ t } := by
  simp only [Bool.true_and, Bool.and_eq_true, decide_eq_true_eq, beq_iff_eq] at h
  rw [litE, if_pos ⟨List.ne_nil_of_length_pos h0, by omega, h.2⟩]
theorem lit_neg {L : List PE} {t : List UInt8} {q : Bool} (h : (true && decide (((nth L (L.length - 1) pe0).kind : Int) = 1) && ((nth L (L.length - 1) pe0).q == q)) = false) : litE L t q = L ++ [⟨1, t, [], nilV, [], q⟩] := by
  rw [litE, if_neg]
  rintro ⟨_, h1, h2⟩
  rw [h1, h2] at h
  simp at h
set_option maxRecDepth 10000 in
theorem lit_nil (b : Nat) (s : List UInt8) (kd dp : Nat) (v : Value) (L : List PE) (t : List UInt8) (q : Bool) (I : Look) (F : List HA) (w0 w : World) (hn : L.length ≤ 1000000000) (ht : t.length ≤ 1000000000) (h0 : L.length = 0) (hw0 : St w0 I (row b 169 (rdC s kd dp v) :: tvec 148 5 partC v L :: F) w) : Calls Tryz.prog 113 [.pointer (some ⟨b, 0, none⟩), str t, .bool q].toArray w (fun e w' => ∃ v0, e = .returned v0 ∧ ∃ I' H', (I = I' ∧ v0 = .tuple #[] ∧ ∃ v', H' = row b 169 (rdC s kd dp v') :: tvec 148 5 partC v' (litE L t q) :: F) ∧ St w I' H' w') := by
  have hE : litE L t q = L ++ [⟨1, t, [], nilV, [], q⟩] := by rw [litE, if_neg (fun h => h.1 (List.eq_nil_of_length_eq_zero h0))]
  refine enter Tryz.func113 rfl Tryz.ntmps113 rfl (hw0.self) ?_
  refine t_seq ?_
  refine t_seq ?_
  refine t_len v (fun hlv => ?_)
  refine t_region ?_
  refine l_q rfl rfl rfl (q_move rfl rfl) ?_
  refine l_q rfl rfl rfl (q_nilCheck rfl rfl) ?_
  refine l_q rfl rfl rfl (q_fieldAddr rfl Tryz.underlying169 rfl rfl ti167 rfl rfl) ?_
  refine l_q rfl rfl rfl (quiet_call rfl rfl rfl Tryz.func136 (by kernel_rfl) rfl ((fun w hw => top_nil b s kd dp v w (rowed_of hw) (h0 ▸ hlv)))) ?_
  refine l_q rfl rfl rfl (q_assign rfl rfl) ?_
  refine l_nil ?_
  refine n_then ?_
  refine t_seq ?_
  refine t_qreg ?_
  refine s_q rfl rfl rfl (q_move rfl rfl) ?_
  refine s_q rfl rfl rfl (q_neq_pnil rfl (by kernel_rfl) rfl rfl) ?_
  refine s_q rfl rfl rfl (q_move rfl rfl) ?_
  refine s_and2 5 2 13 19 18 _ false rfl rfl rfl rfl rfl rfl (fun h19 => by
      cases h19
    ) (wanted_n rfl) rfl rfl rfl ?_
  refine s_q rfl rfl rfl (q_move rfl rfl) ?_
  refine s_and2 6 9 20 27 26 _ false rfl rfl rfl rfl rfl rfl (fun h27 => by
      cases h27
    ) (wanted_n rfl) rfl rfl rfl ?_
  refine s_done ?_
  refine n_then ?_
  refine t_cond rfl (fun hc0 => ?_) (fun hc0 => ?_)
  · skip
    cases hc0
  · skip
    refine t_skip ?_
    refine n_then ?_
    refine t_draw [8, 9, 11, 14] [11, 14] [row b 169 (rdC s kd dp v)] mo (by kernel_rfl) (fun _ _ _ _ _ h => h) ?_
    refine r_qf 0 (by kernel_rfl) rfl rfl rfl rfl (fun _ => q_move rfl rfl) ?_
    refine r_qf 1 (by kernel_rfl) rfl rfl rfl rfl (fun _ => q_nilCheck rfl rfl) ?_
    refine r_qf 2 (by kernel_rfl) rfl rfl rfl rfl (fun _ => q_fieldAddr rfl Tryz.underlying169 rfl rfl ti167 rfl rfl) ?_
    refine r_q0 3 (by kernel_rfl) rfl (Le.refl _) rfl rfl rfl (fun _ hI => q_load_row rfl Tryz.underlying167 rfl rfl (by rfl)) ?_
    refine r_qf 4 (by kernel_rfl) rfl rfl rfl rfl (fun _ => q_move rfl rfl) ?_
    refine r_qf 5 (by kernel_rfl) rfl rfl rfl rfl (fun _ => q_move rfl rfl) ?_
    refine r_qf 6 (by kernel_rfl) rfl rfl rfl rfl (fun _ => q_build (pl := [(_, _), (_, _), (_, _), (_, _), (_, _)]) (cs := (partC ⟨1, t, [], nilV, [], q⟩).toArray) rfl Tryz.underlying148 ti148 ⟨rfl, ⟨_, _, ti3⟩, rfl, ⟨_, _, ti9⟩, rfl, ⟨_, _, ti9⟩, rfl, ⟨_, _, ti96⟩, rfl, ⟨_, _, ti4⟩, trivial⟩ rfl rfl) ?_
    refine r_qf 7 (by kernel_rfl) rfl rfl rfl rfl (fun _ => (by first | exact q_lenV rfl Tryz.underlying167 rfl | exact q_len rfl Tryz.underlying167 rfl (len_of hlv))) ?_
    refine r_e 8 (by kernel_rfl) (by kernel_rfl) rfl (Le.refl _) rfl rfl rfl (e_buildSlice1 rfl Tryz.underlying167 ti148 rfl rfl rfl (by first | exact One.cells (by assumption) | exact One.cells hone | rfl) rfl) ?_
    rintro _ _ _ ⟨b44, rfl, rfl, rfl⟩
    refine ⟨Le.refl _, .inr SubC.sub, ?_⟩
    refine r_e 9 (by kernel_rfl) (by kernel_rfl) rfl (Le.refl _) rfl rfl rfl (e_appendT (f := partC) (c := pe0) rfl Tryz.underlying167 ti148 rfl rfl rfl rfl rfl rfl rfl (by first | exact partC_ones (I := I) (plR_nil I) | exact byC_ones _ | exact chC_ones _ | exact pcC_ones _ | simp [Value.oneCell', str, u8] | exact ones1 (by assumption)) (by simp only [maxLen]; omega) (by omega)) ?_
    rintro v45 _ _ ⟨rfl, rfl⟩
    refine ⟨Le.refl _, .inr SubC.sub, ?_⟩
    have hlen45 : (L ++ [pe0]).length = L.length + 1 := by simp
    refine r_len v45 (fun hsh45 hone => ?_)
    refine r_qf 10 (by kernel_rfl) rfl rfl rfl rfl (fun _ => (by first | exact q_indexAddrVN rfl Tryz.underlying167 ti148 rfl rfl (by omega) | exact q_indexAddrN rfl Tryz.underlying167 ti148 rfl rfl (hsh45) (by omega) | exact q_indexAddrV rfl Tryz.underlying167 ti148 rfl rfl (by omega) | exact q_indexAddr rfl Tryz.underlying167 ti148 rfl rfl (hsh45) (by omega))) ?_
    refine r_qf 12 (by kernel_rfl) rfl rfl rfl rfl (fun _ => q_nilCheck rfl rfl) ?_
    refine r_qf 13 (by kernel_rfl) rfl rfl rfl rfl (fun _ => q_fieldAddr rfl Tryz.underlying169 rfl rfl ti167 rfl rfl) ?_
    refine r_two 11 14 (by kernel_rfl) (by kernel_rfl) ?_ ?_
    · skip
      refine x_e0 11 rfl rfl (Le.refl _) rfl rfl (e_storeSA (⟨1, t, [], nilV, [], q⟩) rfl ti148 rfl rfl (partC_ones (I := I) (plR_nil I)) (fun _ => rfl) (by simp) (by decide)) ?_
      rintro _ _ _ ⟨rfl, rfl⟩
      refine ⟨Le.refl _, .inl rfl, ?_⟩
      refine r_heap (H' := tvec 148 5 partC v45 (L ++ [⟨1, t, [], nilV, [], q⟩]) :: _) ?_ (fun _ h => by rw [set_snoc] at h; exact h)
      refine r_e0 14 (by kernel_rfl) (by kernel_rfl) rfl (Le.refl _) rfl rfl (e_storeS rfl ti167 rfl rfl (by first | exact ⟨rfl, rfl⟩ | assumption | exact hone) rfl (by first | (simp only [List.set_cons_succ, List.set_cons_zero]; rfl) | rfl)) ?_
      rintro _ _ _ ⟨rfl, rfl⟩
      refine ⟨Le.refl _, .inl rfl, ?_⟩
      refine r_heap (H' := row b 169 (rdC s kd dp v45) :: _) ?_ (fun _ h => h)
      refine r_end (by kernel_rfl) ?_
      refine n_end0 rfl (fun w' hw => ?_)
      -- leaf 0
      rw [hE]
      exact ⟨_, rfl, I, row b 169 (rdC s kd dp v45) :: tvec 148 5 partC v45 (L ++ [⟨1, t, [], nilV, [], q⟩]) :: F, ⟨rfl, rfl, v45, rfl⟩, subC_st hw⟩
    · skip
      refine x_e0 14 rfl rfl (Le.refl _) rfl rfl (e_storeS rfl ti167 rfl rfl (by first | exact ⟨rfl, rfl⟩ | assumption | exact hone) rfl (by first | (simp only [List.set_cons_succ, List.set_cons_zero]; rfl) | rfl)) ?_
      rintro _ _ _ ⟨rfl, rfl⟩
      refine ⟨Le.refl _, .inl rfl, ?_⟩
      refine r_heap (H' := row b 169 (rdC s kd dp v45) :: _) ?_ (fun _ h => h)
      refine r_e0 11 (by kernel_rfl) (by kernel_rfl) rfl (Le.refl _) rfl rfl (e_storeSA (⟨1, t, [], nilV, [], q⟩) rfl ti148 rfl rfl (partC_ones (I := I) (plR_nil I)) (fun _ => rfl) (by simp) (by decide)) ?_
      rintro _ _ _ ⟨rfl, rfl⟩
      refine ⟨Le.refl _, .inl rfl, ?_⟩
      refine r_heap (H' := tvec 148 5 partC v45 (L ++ [⟨1, t, [], nilV, [], q⟩]) :: _) ?_ (fun _ h => by rw [set_snoc] at h; exact h)
      refine r_end (by kernel_rfl) ?_
      refine n_end0 rfl (fun w' hw => ?_)
      -- leaf 1
      rw [hE]
      exact ⟨_, rfl, I, row b 169 (rdC s kd dp v45) :: tvec 148 5 partC v45 (L ++ [⟨1, t, [], nilV, [], q⟩]) :: F, ⟨rfl, rfl, v45, rfl⟩, subC_st hw⟩
set_option maxRecDepth 10000 in
theorem lit_cons (b : Nat) (s : List UInt8) (kd dp : Nat) (v : Value) (L : List PE) (t : List UInt8) (q : Bool) (I : Look) (F : List HA) (w0 w : World) (hn : L.length ≤ 1000000000) (ht : t.length ≤ 1000000000) (h0 : 0 < L.length) (hx : (nth L (L.length - 1) pe0).text.length ≤ 1000000000) (hw0 : St w0 I (row b 169 (rdC s kd dp v) :: tvec 148 5 partC v L :: F) w) : Calls Tryz.prog 113 [.pointer (some ⟨b, 0, none⟩), str t, .bool q].toArray w (fun e w' => ∃ v0, e = .returned v0 ∧ ∃ I' H', (I = I' ∧ v0 = .tuple #[] ∧ ∃ v', H' = row b 169 (rdC s kd dp v') :: tvec 148 5 partC v' (litE L t q) :: F) ∧ St w I' H' w') := by
  refine enter Tryz.func113 rfl Tryz.ntmps113 rfl (hw0.self) ?_
  refine t_seq ?_
  refine t_seq ?_
  refine t_len v (fun hlv => ?_)
  refine t_region ?_
  refine l_q rfl rfl rfl (q_move rfl rfl) ?_
  refine l_q rfl rfl rfl (q_nilCheck rfl rfl) ?_
  refine l_q rfl rfl rfl (q_fieldAddr rfl Tryz.underlying169 rfl rfl ti167 rfl rfl) ?_
  refine l_q rfl rfl rfl (quiet_call rfl rfl rfl Tryz.func136 (by kernel_rfl) rfl ((fun w hw => top_some b s kd dp v L.length w (by omega) h0 (rowed_of hw) hlv))) ?_
  refine l_q rfl rfl rfl (q_assign rfl rfl) ?_
  refine l_nil ?_
  refine n_then ?_
  refine t_seq ?_
  refine t_qreg ?_
  refine s_q rfl rfl rfl (q_move rfl rfl) ?_
  refine s_q rfl rfl rfl (q_neq_pnil rfl (by kernel_rfl) rfl rfl) ?_
  refine s_q rfl rfl rfl (q_move rfl rfl) ?_
  refine s_and2 5 2 13 19 18 _ _ rfl rfl rfl rfl rfl rfl (fun h19 => by
      try simp at h19
      refine s_g rfl rfl rfl rfl rfl rfl (q_move rfl rfl) ?_
      refine s_g rfl rfl rfl rfl rfl rfl (q_nilCheck rfl rfl) ?_
      refine s_g rfl rfl rfl rfl rfl rfl (q_fieldAddr rfl Tryz.underlying148 rfl rfl ti3 rfl rfl) ?_
      refine s_g rfl rfl rfl rfl rfl rfl ((by first | exact q_load_row rfl Tryz.underlying3 rfl rfl (by rfl) | exact q_load_vecF rfl Tryz.underlying3 rfl rfl (vec_at (fo := 0) (f := partC) (d := pe0) (fun _ => rfl) (show L.length - 1 < L.length by omega) rfl) | exact q_load_vecF rfl Tryz.underlying3 rfl rfl (vec_at (fo := 1) (f := partC) (d := pe0) (fun _ => rfl) (show L.length - 1 < L.length by omega) rfl) | exact q_load_vecF rfl Tryz.underlying3 rfl rfl (vec_at (fo := 4) (f := partC) (d := pe0) (fun _ => rfl) (show L.length - 1 < L.length by omega) rfl))) ?_
      refine s_g rfl rfl rfl rfl rfl rfl (q_eql rfl rfl rfl) ?_
      exact s_val rfl
    ) (wanted_n rfl) rfl rfl rfl ?_
  refine s_q rfl rfl rfl (q_move rfl rfl) ?_
  refine s_and2 6 9 20 27 26 _ _ rfl rfl rfl rfl rfl rfl (fun h27 => by
      try simp at h27
      refine s_g rfl rfl rfl rfl rfl rfl (q_move rfl rfl) ?_
      refine s_g rfl rfl rfl rfl rfl rfl (q_nilCheck rfl rfl) ?_
      refine s_g rfl rfl rfl rfl rfl rfl (q_fieldAddr rfl Tryz.underlying148 rfl rfl ti4 rfl rfl) ?_
      refine s_g rfl rfl rfl rfl rfl rfl ((by first | exact q_load_row rfl Tryz.underlying4 rfl rfl (by rfl) | exact q_load_vecF rfl Tryz.underlying4 rfl rfl (vec_at (fo := 0) (f := partC) (d := pe0) (fun _ => rfl) (show L.length - 1 < L.length by omega) rfl) | exact q_load_vecF rfl Tryz.underlying4 rfl rfl (vec_at (fo := 1) (f := partC) (d := pe0) (fun _ => rfl) (show L.length - 1 < L.length by omega) rfl) | exact q_load_vecF rfl Tryz.underlying4 rfl rfl (vec_at (fo := 4) (f := partC) (d := pe0) (fun _ => rfl) (show L.length - 1 < L.length by omega) rfl))) ?_
      refine s_g rfl rfl rfl rfl rfl rfl (q_move rfl rfl) ?_
      refine s_g rfl rfl rfl rfl rfl rfl (q_eql_bool rfl Tryz.underlying4 rfl rfl) ?_
      exact s_val rfl
    ) (wanted_n rfl) rfl rfl rfl ?_
  refine s_done ?_
  refine n_then ?_
  refine t_cond rfl (fun hc0 => ?_) (fun hc0 => ?_)
  · skip
    have hE : litE L t q = L.set (L.length - 1) { nth L (L.length - 1) pe0 with text := (nth L (L.length - 1) pe0).text ++ t } := lit_pos h0 hc0
    refine t_seq ?_
    refine t_region ?_
    refine l_q rfl rfl rfl (q_move rfl rfl) ?_
    refine l_q rfl rfl rfl (q_nilCheck rfl rfl) ?_
    refine l_q rfl rfl rfl (q_fieldAddr rfl Tryz.underlying148 rfl rfl ti9 rfl rfl) ?_
    refine l_q rfl rfl rfl ((by first | exact q_load_row rfl Tryz.underlying9 rfl rfl (by rfl) | exact q_load_vecF rfl Tryz.underlying9 rfl rfl (vec_at (fo := 0) (f := partC) (d := pe0) (fun _ => rfl) (show L.length - 1 < L.length by omega) rfl) | exact q_load_vecF rfl Tryz.underlying9 rfl rfl (vec_at (fo := 1) (f := partC) (d := pe0) (fun _ => rfl) (show L.length - 1 < L.length by omega) rfl) | exact q_load_vecF rfl Tryz.underlying9 rfl rfl (vec_at (fo := 4) (f := partC) (d := pe0) (fun _ => rfl) (show L.length - 1 < L.length by omega) rfl))) ?_
    refine l_q rfl rfl rfl (q_move rfl rfl) ?_
    refine l_q rfl rfl rfl (q_cat rfl rfl rfl (by first | omega | (simp only [List.length_append, List.length_cons, List.length_nil, List.length_take, List.length_drop]; omega))) ?_
    refine l_q rfl rfl rfl (q_nilCheck rfl rfl) ?_
    refine l_q rfl rfl rfl (q_fieldAddr rfl Tryz.underlying148 rfl rfl ti9 rfl rfl) ?_
    refine l_e0 rfl rfl (e_storeT pe0 { nth L (L.length - 1) pe0 with text := (nth L (L.length - 1) pe0).text ++ t } rfl ti9 rfl rfl (by first | exact ⟨rfl, rfl⟩ | assumption) (fun _ => rfl) (by first | omega | (rw [List.length_set]; omega)) rfl rfl) ?_
    rintro _ _ _ ⟨rfl, rfl⟩
    refine l_nil ?_
    refine n_then ?_
    refine t_ret ?_
    refine n_ret_then ?_
    refine n_ret0 rfl (fun w' hw => ?_)
    -- leaf 0
    rw [hE]
    exact ⟨_, rfl, I, _, ⟨rfl, rfl, v, rfl⟩, subC_st hw⟩
  · skip
    have hE : litE L t q = L ++ [⟨1, t, [], nilV, [], q⟩] := lit_neg hc0
    refine t_skip ?_
    refine n_then ?_
    refine t_draw [8, 9, 11, 14] [11, 14] [row b 169 (rdC s kd dp v)] mo (by kernel_rfl) (fun _ _ _ _ _ h => h) ?_
    refine r_qf 0 (by kernel_rfl) rfl rfl rfl rfl (fun _ => q_move rfl rfl) ?_
    refine r_qf 1 (by kernel_rfl) rfl rfl rfl rfl (fun _ => q_nilCheck rfl rfl) ?_
    refine r_qf 2 (by kernel_rfl) rfl rfl rfl rfl (fun _ => q_fieldAddr rfl Tryz.underlying169 rfl rfl ti167 rfl rfl) ?_
    refine r_q0 3 (by kernel_rfl) rfl (Le.refl _) rfl rfl rfl (fun _ hI => (by first | exact q_load_row rfl Tryz.underlying167 rfl rfl (by rfl) | exact q_load_vecF rfl Tryz.underlying167 rfl rfl (vec_at (fo := 0) (f := partC) (d := pe0) (fun _ => rfl) (show L.length - 1 < L.length by omega) rfl) | exact q_load_vecF rfl Tryz.underlying167 rfl rfl (vec_at (fo := 1) (f := partC) (d := pe0) (fun _ => rfl) (show L.length - 1 < L.length by omega) rfl) | exact q_load_vecF rfl Tryz.underlying167 rfl rfl (vec_at (fo := 4) (f := partC) (d := pe0) (fun _ => rfl) (show L.length - 1 < L.length by omega) rfl))) ?_
    refine r_qf 4 (by kernel_rfl) rfl rfl rfl rfl (fun _ => q_move rfl rfl) ?_
    refine r_qf 5 (by kernel_rfl) rfl rfl rfl rfl (fun _ => q_move rfl rfl) ?_
    refine r_qf 6 (by kernel_rfl) rfl rfl rfl rfl (fun _ => q_build (pl := [(_, _), (_, _), (_, _), (_, _), (_, _)]) (cs := (partC ⟨1, t, [], nilV, [], q⟩).toArray) rfl Tryz.underlying148 ti148 ⟨rfl, ⟨_, _, ti3⟩, rfl, ⟨_, _, ti9⟩, rfl, ⟨_, _, ti9⟩, rfl, ⟨_, _, ti96⟩, rfl, ⟨_, _, ti4⟩, trivial⟩ rfl rfl) ?_
    refine r_qf 7 (by kernel_rfl) rfl rfl rfl rfl (fun _ => (by first | exact q_lenV rfl Tryz.underlying167 rfl | exact q_len rfl Tryz.underlying167 rfl (len_of hlv))) ?_
    refine r_e 8 (by kernel_rfl) (by kernel_rfl) rfl (Le.refl _) rfl rfl rfl (e_buildSlice1 rfl Tryz.underlying167 ti148 rfl rfl rfl (by first | exact One.cells (by assumption) | exact One.cells hone | rfl) rfl) ?_
    rintro _ _ _ ⟨b44, rfl, rfl, rfl⟩
    refine ⟨Le.refl _, .inr SubC.sub, ?_⟩
    refine r_e 9 (by kernel_rfl) (by kernel_rfl) rfl (Le.refl _) rfl rfl rfl (e_appendT (f := partC) (c := pe0) rfl Tryz.underlying167 ti148 rfl rfl rfl rfl rfl rfl rfl (by first | exact partC_ones (I := I) (plR_nil I) | exact byC_ones _ | exact chC_ones _ | exact pcC_ones _ | simp [Value.oneCell', str, u8] | exact ones1 (by assumption)) (by simp only [maxLen]; omega) (by omega)) ?_
    rintro v45 _ _ ⟨rfl, rfl⟩
    refine ⟨Le.refl _, .inr SubC.sub, ?_⟩
    have hlen45 : (L ++ [pe0]).length = L.length + 1 := by simp
    refine r_len v45 (fun hsh45 hone => ?_)
    refine r_qf 10 (by kernel_rfl) rfl rfl rfl rfl (fun _ => (by first | exact q_indexAddrVN rfl Tryz.underlying167 ti148 rfl rfl (by omega) | exact q_indexAddrN rfl Tryz.underlying167 ti148 rfl rfl (hsh45) (by omega) | exact q_indexAddrV rfl Tryz.underlying167 ti148 rfl rfl (by omega) | exact q_indexAddr rfl Tryz.underlying167 ti148 rfl rfl (hsh45) (by omega))) ?_
    refine r_qf 12 (by kernel_rfl) rfl rfl rfl rfl (fun _ => q_nilCheck rfl rfl) ?_
    refine r_qf 13 (by kernel_rfl) rfl rfl rfl rfl (fun _ => q_fieldAddr rfl Tryz.underlying169 rfl rfl ti167 rfl rfl) ?_
    refine r_two 11 14 (by kernel_rfl) (by kernel_rfl) ?_ ?_
    · skip
      refine x_e0 11 rfl rfl (Le.refl _) rfl rfl (e_storeSA (⟨1, t, [], nilV, [], q⟩) rfl ti148 rfl rfl (partC_ones (I := I) (plR_nil I)) (fun _ => rfl) (by simp) (by decide)) ?_
      rintro _ _ _ ⟨rfl, rfl⟩
      refine ⟨Le.refl _, .inl rfl, ?_⟩
      refine r_heap (H' := tvec 148 5 partC v45 (L ++ [⟨1, t, [], nilV, [], q⟩]) :: _) ?_ (fun _ h => by rw [set_snoc] at h; exact h)
      refine r_e0 14 (by kernel_rfl) (by kernel_rfl) rfl (Le.refl _) rfl rfl (e_storeS rfl ti167 rfl rfl (by first | exact ⟨rfl, rfl⟩ | assumption | exact hone) rfl (by first | (simp only [List.set_cons_succ, List.set_cons_zero]; rfl) | rfl)) ?_
      rintro _ _ _ ⟨rfl, rfl⟩
      refine ⟨Le.refl _, .inl rfl, ?_⟩
      refine r_heap (H' := row b 169 (rdC s kd dp v45) :: _) ?_ (fun _ h => h)
      refine r_end (by kernel_rfl) ?_
      refine n_end0 rfl (fun w' hw => ?_)
      -- leaf 1
      rw [hE]
      exact ⟨_, rfl, I, row b 169 (rdC s kd dp v45) :: tvec 148 5 partC v45 (L ++ [⟨1, t, [], nilV, [], q⟩]) :: F, ⟨rfl, rfl, v45, rfl⟩, subC_st hw⟩
    · skip
      refine x_e0 14 rfl rfl (Le.refl _) rfl rfl (e_storeS rfl ti167 rfl rfl (by first | exact ⟨rfl, rfl⟩ | assumption | exact hone) rfl (by first | (simp only [List.set_cons_succ, List.set_cons_zero]; rfl) | rfl)) ?_
      rintro _ _ _ ⟨rfl, rfl⟩
      refine ⟨Le.refl _, .inl rfl, ?_⟩
      refine r_heap (H' := row b 169 (rdC s kd dp v45) :: _) ?_ (fun _ h => h)
      refine r_e0 11 (by kernel_rfl) (by kernel_rfl) rfl (Le.refl _) rfl rfl (e_storeSA (⟨1, t, [], nilV, [], q⟩) rfl ti148 rfl rfl (partC_ones (I := I) (plR_nil I)) (fun _ => rfl) (by simp) (by decide)) ?_
      rintro _ _ _ ⟨rfl, rfl⟩
      refine ⟨Le.refl _, .inl rfl, ?_⟩
      refine r_heap (H' := tvec 148 5 partC v45 (L ++ [⟨1, t, [], nilV, [], q⟩]) :: _) ?_ (fun _ h => by rw [set_snoc] at h; exact h)
      refine r_end (by kernel_rfl) ?_
      refine n_end0 rfl (fun w' hw => ?_)
      -- leaf 2
      rw [hE]
      exact ⟨_, rfl, I, row b 169 (rdC s kd dp v45) :: tvec 148 5 partC v45 (L ++ [⟨1, t, [], nilV, [], q⟩]) :: F, ⟨rfl, rfl, v45, rfl⟩, subC_st hw⟩
theorem lit_calls (b : Nat) (s : List UInt8) (kd dp : Nat) (v : Value) (L : List PE) (t : List UInt8) (q : Bool) (I : Look) (F : List HA) (w0 w : World) (hn : L.length ≤ 1000000000) (ht : t.length ≤ 1000000000) (hx : ∀ x ∈ L, x.text.length ≤ 1000000000) (hw0 : St w0 I (row b 169 (rdC s kd dp v) :: tvec 148 5 partC v L :: F) w) : Calls Tryz.prog 113 [.pointer (some ⟨b, 0, none⟩), str t, .bool q].toArray w (fun e w' => ∃ v0, e = .returned v0 ∧ ∃ I' H', (I = I' ∧ v0 = .tuple #[] ∧ ∃ v', H' = row b 169 (rdC s kd dp v') :: tvec 148 5 partC v' (litE L t q) :: F) ∧ St w I' H' w') := by
  rcases Nat.eq_zero_or_pos L.length with h | h
  · exact lit_nil b s kd dp v L t q I F w0 w hn ht h hw0
  · exact lit_cons b s kd dp v L t q I F w0 w hn ht h (hx _ (nth_mem (by omega))) hw0
end Go.Tri

/-
  Other parts behind.
-/
namespace Go.Tri
open Go.Proofs Go.RowKit
theorem rds_pt {w0 : World} {I : Look} {H : List HA} {v : Value} {l : List PE} (h : Sl I 5 v (l.map partC)) {i : Nat} (hi : i < l.length) : Rds w0 I H (adr v).block ((adr v).off + i * 5) (partC (nth l i pe0)) := h.rds (map_getD l partC pe0 hi)
theorem litE_sum (L : List PE) (t : List UInt8) (q : Bool) : sumT (litE L t q) = sumT L + t.length := by rw [← sumP_pt, litE_pt, litP_sum, sumP_pt]
theorem allE_sum (M L : List PE) : sumT (allE L M) = sumT L + sumT M := by rw [← sumP_pt, allE_pt, allP_sum, sumP_pt, sumP_pt]
theorem sumT_take (M : List PE) (i : Nat) : sumT (M.take i) ≤ sumT M := by
  conv => rhs; rw [← List.take_append_drop i M, sumT_app]
  omega
theorem allE_take {L M : List PE} {i : Nat} (h : i < M.length) : allE L (M.take (i + 1)) = if (nth M i pe0).kind = 1 then litE (allE L (M.take i)) (nth M i pe0).text (nth M i pe0).q else allE L (M.take i) ++ [nth M i pe0] := by
  rw [take_nth pe0 h, allE_snoc]
set_option maxRecDepth 10000 in
theorem all_calls (b : Nat) (s : List UInt8) (kd dp : Nat) (v : Value) (L M : List PE) (vl : Value) (I : Look) (F : List HA) (w0 w : World) (hn : L.length + M.length ≤ 1000000000) (hs : sumT L + sumT M ≤ 1000000000) (hvl : Sl I 5 vl (M.map partC)) (hWM : WordsR I M) (hw0 : St w0 I (row b 169 (rdC s kd dp v) :: tvec 148 5 partC v L :: F) w) : Calls Tryz.prog 132 [.pointer (some ⟨b, 0, none⟩), vl].toArray w (fun e w' => ∃ v0, e = .returned v0 ∧ ∃ I' H', (I = I' ∧ v0 = .tuple #[] ∧ ∃ v', H' = row b 169 (rdC s kd dp v') :: tvec 148 5 partC v' (allE L M) :: F) ∧ St w I' H' w') := by
  refine enter Tryz.func132 rfl Tryz.ntmps132 rfl (hw0.self) ?_
  refine t_seq ?_
  refine t_region ?_
  refine l_q rfl rfl rfl (q_move rfl rfl) ?_
  refine l_q rfl rfl rfl ((by first | exact q_lenV rfl Tryz.underlying96 rfl | exact q_len rfl Tryz.underlying96 rfl (Sl.lenOf hvl (List.length_map _)) | exact q_len rfl Tryz.underlying96 rfl (len_of hlv))) ?_
  refine l_q rfl rfl rfl (q_move rfl rfl) ?_
  refine l_nil ?_
  refine n_then ?_
  refine t_block ?_
  refine t_loopE (ι := Nat × Value) (fun zz => zz.1 ≤ M.length) (fun zz => M.length - zz.1) (fun zz => [(8, .int .i64 (zz.1 : Int))]) [(0, _), (1, _), (6, _), (7, _)] (fun zz => I) (fun zz => (row b 169 (rdC s kd dp zz.2) :: tvec 148 5 partC zz.2 (allE L (M.take zz.1)) :: F)) (0, v) ?_ (sub_cons rfl sub_nil) (sub_cons rfl (sub_cons rfl (sub_cons rfl (sub_cons rfl sub_nil)))) (fun _ h => by dsimp only; rw [List.take_zero]; exact h) ?_
  · try dsimp only
    exact Nat.zero_le _
  rintro ⟨i, v'⟩ hi
  try dsimp only at *
  have hb1 := allE_len (M.take i) L
  have hb2 := allE_sum (M.take i) L
  have hb3 := sumT_take M i
  have hb4 : (M.take i).length ≤ M.length := by rw [List.length_take]; omega
  refine t_seq ?_
  refine t_region ?_
  refine l_q rfl rfl rfl (q_lss rfl rfl rfl) ?_
  refine l_nil ?_
  refine n_then ?_
  refine t_seq ?_
  refine t_cond rfl (fun hc0 => ?_) (fun hc0 => ?_)
  · skip
    try simp at hc0
    have hiM : i < M.length := by omega
    refine t_skip ?_
    refine n_then ?_
    refine t_seq ?_
    refine t_block ?_
    refine t_seq ?_
    refine t_region ?_
    refine l_q rfl rfl rfl ((by first | exact q_indexAddrVN rfl Tryz.underlying96 ti148 rfl rfl (by omega) | exact q_indexAddrN rfl Tryz.underlying96 ti148 rfl rfl (hsh28) (by omega) | exact q_indexAddrN rfl Tryz.underlying96 ti148 rfl rfl (Sl.shape hvl (List.length_map _)) (by omega) | exact q_indexAddrV rfl Tryz.underlying96 ti148 rfl rfl (by omega) | exact q_indexAddr rfl Tryz.underlying96 ti148 rfl rfl (hsh28) (by omega) | exact q_indexAddr rfl Tryz.underlying96 ti148 rfl rfl (Sl.shape hvl (List.length_map _)) (by omega))) ?_
    refine l_q rfl rfl rfl ((by first | exact q_load_rowA rfl Tryz.underlying148 ti148 rfl rfl rfl | exact q_load_agg rfl Tryz.underlying148 ti148 rfl rfl (rds_pt (i := i) hvl (by omega)))) ?_
    refine l_e rfl rfl rfl (e_alloc rfl ti148 rfl) ?_
    rintro _ _ _ ⟨b5, rfl, rfl, rfl⟩
    refine l_e0 rfl rfl ((by first | exact e_store_all rfl ti148 rfl rfl rfl (by first | exact chC_ones _ | exact pcC_ones _ | exact partC_ones (hWM _ (nth_mem (by omega))) | simp [Value.oneCell', str, u8]) rfl | exact e_store_agg rfl ti148 rfl rfl rfl (by first | exact chC_ones _ | exact pcC_ones _ | exact partC_ones (hWM _ (nth_mem (by omega))) | simp [Value.oneCell', str, u8]) rfl)) ?_
    rintro _ _ _ ⟨rfl, rfl⟩
    refine l_nil ?_
    refine n_then ?_
    refine t_seq ?_
    refine t_region ?_
    refine l_q rfl rfl rfl (q_fieldAddr rfl Tryz.underlying148 rfl rfl ti3 rfl rfl) ?_
    refine l_q rfl rfl rfl (q_load_row rfl Tryz.underlying3 rfl rfl (by rfl)) ?_
    refine l_q rfl rfl rfl (q_eql rfl rfl rfl) ?_
    refine l_nil ?_
    refine n_then ?_
    refine t_cond rfl (fun hc1 => ?_) (fun hc1 => ?_)
    · skip
      try simp at hc1
      have hk : (nth M i pe0).kind = 1 := by omega
      refine t_region ?_
      refine l_q rfl rfl rfl (q_move rfl rfl) ?_
      refine l_q rfl rfl rfl (q_fieldAddr rfl Tryz.underlying148 rfl rfl ti9 rfl rfl) ?_
      refine l_q rfl rfl rfl (q_load_row rfl Tryz.underlying9 rfl rfl (by rfl)) ?_
      refine l_q rfl rfl rfl (q_fieldAddr rfl Tryz.underlying148 rfl rfl ti4 rfl rfl) ?_
      refine l_q rfl rfl rfl (q_load_row rfl Tryz.underlying4 rfl rfl (by rfl)) ?_
      refine l_e rfl rfl rfl (eff_call rfl rfl rfl Tryz.func113 (by kernel_rfl) rfl (fun w hw => lit_calls b s kd dp v' (allE L (M.take i)) (nth M i pe0).text (nth M i pe0).q _ _ _ w (by omega) (by have := sumT_mem (nth_mem (l := M) (i := i) (d := pe0) (by omega)); omega) (fun x hx => by have := sumT_mem hx; omega) (picks_st2 (row b 169 (rdC s kd dp v')) (tvec 148 5 partC v' (allE L (M.take i))) hw))) ?_
      rintro _ _ _ ⟨rfl, rfl, v20, rfl⟩
      refine l_nil ?_
      refine n_block ?_
      refine n_then ?_
      refine t_region ?_
      refine l_q rfl rfl rfl (q_add64 rfl rfl rfl (by omega)) ?_
      refine l_q rfl rfl rfl (q_move rfl rfl) ?_
      refine l_nil ?_
      refine n_roundE ((i + 1, v20)) ?_ ?_ (sub_cons rfl sub_nil) (sub_cons rfl (sub_cons rfl (sub_cons rfl (sub_cons rfl sub_nil)))) (fun _ h => by dsimp only; rw [allE_take hiM, if_pos hk]; exact subC_st h)
      · try dsimp only
        exact hiM
      · try dsimp only
        show M.length - (i + 1) < M.length - i
        omega
    · skip
      try simp at hc1
      have hk : ¬ (nth M i pe0).kind = 1 := by omega
      refine t_len v' (fun hlv => ?_)
      refine t_draw [6, 7, 9, 12] [9, 12] [row b 169 (rdC s kd dp v'), row b5 148 (partC (nth M i pe0))] mo (by kernel_rfl) (fun _ _ _ _ _ h => h) ?_
      refine r_qf 0 (by kernel_rfl) rfl rfl rfl rfl (fun _ => q_move rfl rfl) ?_
      refine r_qf 1 (by kernel_rfl) rfl rfl rfl rfl (fun _ => q_nilCheck rfl rfl) ?_
      refine r_qf 2 (by kernel_rfl) rfl rfl rfl rfl (fun _ => q_fieldAddr rfl Tryz.underlying169 rfl rfl ti167 rfl rfl) ?_
      refine r_q0 3 (by kernel_rfl) rfl (Le.refl _) rfl rfl rfl (fun _ hI => q_load_row rfl Tryz.underlying167 rfl rfl (by rfl)) ?_
      refine r_q0 4 (by kernel_rfl) rfl (Le.refl _) rfl rfl rfl (fun _ hI => (by first | exact q_load_rowA rfl Tryz.underlying148 ti148 rfl rfl rfl | exact q_load_agg rfl Tryz.underlying148 ti148 rfl rfl (rds_pt (i := i) hvl (by omega)))) ?_
      refine r_qf 5 (by kernel_rfl) rfl rfl rfl rfl (fun _ => (by first | exact q_lenV rfl Tryz.underlying167 rfl | exact q_len rfl Tryz.underlying167 rfl (Sl.lenOf hvl (List.length_map _)) | exact q_len rfl Tryz.underlying167 rfl (len_of hlv))) ?_
      refine r_e 6 (by kernel_rfl) (by kernel_rfl) rfl (Le.refl _) rfl rfl rfl (e_buildSlice1 rfl Tryz.underlying167 ti148 rfl rfl rfl (by first | exact One.cells (by assumption) | exact One.cells hone | rfl) rfl) ?_
      rintro _ _ _ ⟨b27, rfl, rfl, rfl⟩
      refine ⟨Le.refl _, .inr SubC.sub, ?_⟩
      refine r_e 7 (by kernel_rfl) (by kernel_rfl) rfl (Le.refl _) rfl rfl rfl (e_appendT (f := partC) (c := pe0) rfl Tryz.underlying167 ti148 rfl rfl rfl rfl rfl rfl rfl (by first | exact partC_ones (I := I) (plR_nil I) | exact byC_ones _ | exact chC_ones _ | exact pcC_ones _ | simp [Value.oneCell', str, u8] | exact ones1 (by assumption)) (by simp only [maxLen]; omega) (by omega)) ?_
      rintro v28 _ _ ⟨rfl, rfl⟩
      refine ⟨Le.refl _, .inr SubC.sub, ?_⟩
      have hlen28 : ((allE L (M.take i)) ++ [pe0]).length = (allE L (M.take i)).length + 1 := by simp
      refine r_len v28 (fun hsh28 hone => ?_)
      refine r_qf 8 (by kernel_rfl) rfl rfl rfl rfl (fun _ => (by first | exact q_indexAddrVN rfl Tryz.underlying167 ti148 rfl rfl (by omega) | exact q_indexAddrN rfl Tryz.underlying167 ti148 rfl rfl (hsh28) (by omega) | exact q_indexAddrN rfl Tryz.underlying167 ti148 rfl rfl (Sl.shape hvl (List.length_map _)) (by omega) | exact q_indexAddrV rfl Tryz.underlying167 ti148 rfl rfl (by omega) | exact q_indexAddr rfl Tryz.underlying167 ti148 rfl rfl (hsh28) (by omega) | exact q_indexAddr rfl Tryz.underlying167 ti148 rfl rfl (Sl.shape hvl (List.length_map _)) (by omega))) ?_
      refine r_qf 10 (by kernel_rfl) rfl rfl rfl rfl (fun _ => q_nilCheck rfl rfl) ?_
      refine r_qf 11 (by kernel_rfl) rfl rfl rfl rfl (fun _ => q_fieldAddr rfl Tryz.underlying169 rfl rfl ti167 rfl rfl) ?_
      refine r_two 9 12 (by kernel_rfl) (by kernel_rfl) ?_ ?_
      · skip
        refine x_e0 9 rfl rfl (Le.refl _) rfl rfl (e_storeSA ((nth M i pe0)) rfl ti148 rfl rfl (partC_ones (hWM _ (nth_mem (by omega)))) (fun _ => rfl) (by simp) (by decide)) ?_
        rintro _ _ _ ⟨rfl, rfl⟩
        refine ⟨Le.refl _, .inl rfl, ?_⟩
        refine r_heap (H' := tvec 148 5 partC v28 ((allE L (M.take i)) ++ [(nth M i pe0)]) :: _) ?_ (fun _ h => by rw [set_snoc] at h; exact h)
        refine r_e0 12 (by kernel_rfl) (by kernel_rfl) rfl (Le.refl _) rfl rfl (e_storeS rfl ti167 rfl rfl (by first | exact ⟨rfl, rfl⟩ | assumption | exact hone) rfl (by first | (simp only [List.set_cons_succ, List.set_cons_zero]; rfl) | rfl)) ?_
        rintro _ _ _ ⟨rfl, rfl⟩
        refine ⟨Le.refl _, .inl rfl, ?_⟩
        refine r_heap (H' := row b 169 (rdC s kd dp v28) :: _) ?_ (fun _ h => h)
        refine r_end (by kernel_rfl) ?_
        refine n_block ?_
        refine n_then ?_
        refine t_region ?_
        refine l_q rfl rfl rfl (q_add64 rfl rfl rfl (by omega)) ?_
        refine l_q rfl rfl rfl (q_move rfl rfl) ?_
        refine l_nil ?_
        refine n_roundE ((i + 1, v28)) ?_ ?_ (sub_cons rfl sub_nil) (sub_cons rfl (sub_cons rfl (sub_cons rfl (sub_cons rfl sub_nil)))) (fun _ h => by dsimp only; rw [allE_take hiM, if_neg hk]; exact subC_st h)
        · try dsimp only
          exact hiM
        · try dsimp only
          show M.length - (i + 1) < M.length - i
          omega
      · skip
        refine x_e0 12 rfl rfl (Le.refl _) rfl rfl (e_storeS rfl ti167 rfl rfl (by first | exact ⟨rfl, rfl⟩ | assumption | exact hone) rfl (by first | (simp only [List.set_cons_succ, List.set_cons_zero]; rfl) | rfl)) ?_
        rintro _ _ _ ⟨rfl, rfl⟩
        refine ⟨Le.refl _, .inl rfl, ?_⟩
        refine r_heap (H' := row b 169 (rdC s kd dp v28) :: _) ?_ (fun _ h => h)
        refine r_e0 9 (by kernel_rfl) (by kernel_rfl) rfl (Le.refl _) rfl rfl (e_storeSA ((nth M i pe0)) rfl ti148 rfl rfl (partC_ones (hWM _ (nth_mem (by omega)))) (fun _ => rfl) (by simp) (by decide)) ?_
        rintro _ _ _ ⟨rfl, rfl⟩
        refine ⟨Le.refl _, .inl rfl, ?_⟩
        refine r_heap (H' := tvec 148 5 partC v28 ((allE L (M.take i)) ++ [(nth M i pe0)]) :: _) ?_ (fun _ h => by rw [set_snoc] at h; exact h)
        refine r_end (by kernel_rfl) ?_
        refine n_block ?_
        refine n_then ?_
        refine t_region ?_
        refine l_q rfl rfl rfl (q_add64 rfl rfl rfl (by omega)) ?_
        refine l_q rfl rfl rfl (q_move rfl rfl) ?_
        refine l_nil ?_
        refine n_roundE ((i + 1, v28)) ?_ ?_ (sub_cons rfl sub_nil) (sub_cons rfl (sub_cons rfl (sub_cons rfl (sub_cons rfl sub_nil)))) (fun _ h => by dsimp only; rw [allE_take hiM, if_neg hk]; exact subC_st h)
        · try dsimp only
          exact hiM
        · try dsimp only
          show M.length - (i + 1) < M.length - i
          omega
  · skip
    try simp at hc0
    have hiM : i = M.length := by omega
    refine t_exit ?_
    refine n_exit_then ?_
    refine n_exit_then ?_
    refine n_exit_block ?_
    refine n_end0 rfl (fun w' hw => ?_)
    -- leaf 0
    rw [hiM, List.take_length] at hw
    exact ⟨_, rfl, I, _, ⟨rfl, rfl, v', rfl⟩, subC_st hw⟩
end Go.Tri
