/-
  Backslashes, and whether it is an expression.
-/
import Derived.Test.YtbogmbdfjgnfaaaGreatDoorEB1
import Derived.Test.YtbogmbdfjgnfaaaGreatDoorPWord5
namespace Go.Tri
open Go.Proofs Go.RowKit
def SRes (r : SP) (l : List PT) (k e : Nat) : Prop := match r with
  | .ok acc k' => e = 0 ∧ k = k' ∧ l = acc
  | .bad e' => e = e' ∧ e ≠ 0
theorem SRes.t {r : SP} {l : List PT} {k e : Nat} (h : SRes r l k e) (he : e = 0) : r = .ok l k := by
  cases r with
  | ok acc k' => rw [h.2.1, h.2.2]
  | bad e' => exact absurd he h.2
theorem SRes.f {r : SP} {l : List PT} {k e : Nat} (h : SRes r l k e) (he : e ≠ 0) : r = .bad e := by
  cases r with
  | ok acc k' => exact absurd h.1 he
  | bad e' => rw [h.1]
/-- what a step left behind -/
def StepPost (b : Nat) (s : List UInt8) (kd dp : Nat) (r : SP) (v0 : Value) (I I' : Look) (F H' : List HA) : Prop :=
  Le I I' ∧ ∃ (v' : Value) (L' : List PE) (k e : Nat), v0 = .tuple #[.int .i64 (k : Int), .int .i64 (e : Int)] ∧ H' = row b 169 (rdC s kd dp v') :: tvec 148 5 partC v' L' :: F ∧ WordsR I' L' ∧ SRes r (L'.map PE.pt) k e
theorem StepPost.good {b : Nat} {s : List UInt8} {kd dp : Nat} {r : SP} {I I' : Look} {F H' : List HA} (hle : Le I I') {v' : Value} {L' : List PE} {k : Nat} {acc : List PT} (hr : r = .ok acc k) (hH : H' = row b 169 (rdC s kd dp v') :: tvec 148 5 partC v' L' :: F) (hW : WordsR I' L') (hL : L'.map PE.pt = acc) :
    StepPost b s kd dp r (.tuple #[.int .i64 (k : Int), .int .i64 0]) I I' F H' := ⟨hle, v', L', k, 0, rfl, hH, hW, by rw [hr]; exact ⟨rfl, rfl, hL⟩⟩
theorem StepPost.fail {b : Nat} {s : List UInt8} {kd dp : Nat} {r : SP} {I I' : Look} {F H' : List HA} (hle : Le I I') {v' : Value} {L' : List PE} {e : Nat} (hr : r = .bad e) (he : e ≠ 0) (hH : H' = row b 169 (rdC s kd dp v') :: tvec 148 5 partC v' L' :: F) (hW : WordsR I' L') :
    StepPost b s kd dp r (.tuple #[.int .i64 0, .int .i64 (e : Int)]) I I' F H' := ⟨hle, v', L', 0, e, rfl, hH, hW, by rw [hr]; exact ⟨rfl, he⟩⟩
def WRes (r : PR) (I : Look) (vl : Value) (e1 : Nat) : Prop := match r with
  | .ok l => e1 = 0 ∧ PlR I vl l
  | .bad e2 => e1 = e2 ∧ e1 ≠ 0 ∧ vl = nilV
theorem WRes.t {r : PR} {I : Look} {vl : Value} {e1 : Nat} (h : WRes r I vl e1) (he : e1 = 0) : ∃ l, r = .ok l ∧ PlR I vl l := by
  cases r with
  | ok l => exact ⟨l, rfl, h.2⟩
  | bad e2 => exact absurd he h.2.1
theorem WRes.f {r : PR} {I : Look} {vl : Value} {e1 : Nat} (h : WRes r I vl e1) (he : e1 ≠ 0) : r = .bad e1 ∧ vl = nilV := by
  cases r with
  | ok l => exact absurd h.1 he
  | bad e2 => obtain ⟨h1, _, h2⟩ := h; rw [h1]; exact ⟨rfl, h2⟩
theorem WRes.w {r : PR} {I : Look} {vl : Value} {e1 : Nat} (h : WRes r I vl e1) : ∃ wl, PlR I vl wl ∧ (e1 = 0 → r = .ok wl) ∧ (e1 ≠ 0 → r = .bad e1) := by
  cases r with
  | ok l => exact ⟨l, h.2, fun _ => rfl, fun he => absurd h.1 he⟩
  | bad e2 => obtain ⟨h1, h2, h3⟩ := h; rw [h3]; exact ⟨[], plR_nil _, fun he => absurd he h2, fun _ => by rw [h1]⟩
/-- what within tells at a level -/
def WithinOk (n : Nat) : Prop := ∀ (s : List UInt8) (kind d : Nat) (I : Look) (F : List HA) (w0 w : World), 24 - d = n → d ≤ 24 → kind ≤ 2 → s.length ≤ 100000000 → EnvI I → St w0 I F w →
  Calls Tryz.prog 67 [str s, .int .i64 (kind : Int), .int .i64 (d : Int)].toArray w (fun e w' => ∃ v, e = .returned v ∧ ∃ I' H', (Le I I' ∧ F = H' ∧ ∃ vl, ∃ e1 : Nat, v = .tuple #[vl, .int .i64 (e1 : Int)] ∧ WRes (wP n kind s) I' vl e1) ∧ St w I' H' w')
theorem bsl_takes {kd : Nat} {c : UInt8} (h : (decide ((kd : Int) = 0) || decide (0 ≤ Lib.indexByte [36, 96, 92] c) || (decide ((kd : Int) = 1) && decide (c = 34))) = true) : kd = 0 ∨ hasB [36, 96, 92] c = true ∨ (kd = 1 ∧ c = 34) := by
  rw [indexByte_has] at h
  simp only [Bool.or_eq_true, Bool.and_eq_true, decide_eq_true_eq] at h
  rcases h with (h | h) | h
  · exact .inl (by omega)
  · exact .inr (.inl h)
  · exact .inr (.inr ⟨by omega, h.2⟩)
theorem bsl_not {kd : Nat} {c : UInt8} (h : (decide ((kd : Int) = 0) || decide (0 ≤ Lib.indexByte [36, 96, 92] c) || (decide ((kd : Int) = 1) && decide (c = 34))) = false) : ¬ (kd = 0 ∨ hasB [36, 96, 92] c = true ∨ (kd = 1 ∧ c = 34)) := by
  rw [indexByte_has] at h
  simp only [Bool.or_eq_false_iff, Bool.and_eq_false_iff, decide_eq_false_iff_not] at h
  rintro (h1 | h1 | ⟨h1, h2⟩)
  · omega
  · rw [h1] at h; exact absurd h.1.2 (by simp)
  · rcases h.2 with h3 | h3
    · omega
    · exact h3 h2
set_option maxRecDepth 10000 in
theorem bsl_calls (b : Nat) (s : List UInt8) (kd dp : Nat) (v : Value) (L : List PE) (l : List UInt8) (I : Look) (F : List HA) (w0 w : World) (hn : L.length ≤ 200000000) (hsum : sumT L ≤ 200000000) (hl : l ≠ []) (hll : l.length ≤ 100000000) (hWL : WordsR I L) (hw0 : St w0 I (row b 169 (rdC s kd dp v) :: tvec 148 5 partC v L :: F) w) : Calls Tryz.prog 110 [.pointer (some ⟨b, 0, none⟩), str l].toArray w (fun e w' => ∃ v0, e = .returned v0 ∧ ∃ I' H', (I = I' ∧ ∃ (v' : Value) (L' : List PE) (k : Nat), v0 = .int .i64 (k : Int) ∧ H' = row b 169 (rdC s kd dp v') :: tvec 148 5 partC v' L' :: F ∧ WordsR I L' ∧ bslP kd l (L.map PE.pt) = .ok (L'.map PE.pt) k) ∧ St w I' H' w') := by
  have hp := List.length_pos_iff.2 hl
  refine enter Tryz.func110 rfl Tryz.ntmps110 rfl (hw0.self) ?_
  refine t_seq ?_
  refine t_region ?_
  refine l_q rfl rfl rfl (q_assign rfl rfl) ?_
  refine l_nil ?_
  refine n_then ?_
  refine t_seq ?_
  refine t_seq ?_
  refine t_region ?_
  refine l_q rfl rfl rfl (q_move rfl rfl) ?_
  refine l_q rfl rfl rfl (q_len_str rfl Tryz.underlying9 rfl) ?_
  refine l_q rfl rfl rfl (q_eql rfl rfl rfl) ?_
  refine l_nil ?_
  refine n_then ?_
  refine t_cond rfl (fun hc0 => ?_) (fun hc0 => ?_)
  · skip
    try simp at hc0
    have h1 : l.length = 1 := by omega
    refine t_seq ?_
    refine t_region ?_
    refine l_q rfl rfl rfl (q_move rfl rfl) ?_
    refine l_e rfl rfl rfl (eff_call rfl rfl rfl Tryz.func113 (by kernel_rfl) rfl (fun w hw => lit_calls b s kd dp v L [92] true _ _ _ w (by omega) (by first | omega | (simp; done) | (simp; omega)) (fun x hx => by have := sumT_mem hx; omega) (picks_st2 (row b 169 (rdC s kd dp v)) (tvec 148 5 partC v L) hw))) ?_
    rintro _ _ _ ⟨rfl, rfl, v10, rfl⟩
    refine l_nil ?_
    refine n_then ?_
    refine t_seq ?_
    refine t_region ?_
    refine l_q rfl rfl rfl (q_assign rfl rfl) ?_
    refine l_nil ?_
    refine n_then ?_
    refine t_ret ?_
    refine n_ret_then ?_
    refine n_ret1 rfl rfl (fun w' hw => ?_)
    -- leaf 0
    exact ⟨_, rfl, I, _, ⟨rfl, v10, litE L [92] true, 1, rfl, rfl, litE_words hWL, (by rw [bslP, if_pos h1, litE_pt])⟩, subC_st hw⟩
  · skip
    try simp at hc0
    have h1 : ¬ l.length = 1 := by omega
    have h1l : 2 ≤ l.length := by omega
    refine t_skip ?_
    refine n_then ?_
    refine t_seq ?_
    have h1l : 2 ≤ l.length := by omega
    refine t_qreg ?_
    refine s_q rfl rfl rfl (q_move rfl rfl) ?_
    refine s_q rfl rfl rfl (q_nilCheck rfl rfl) ?_
    refine s_q rfl rfl rfl (q_fieldAddr rfl Tryz.underlying169 rfl rfl ti3 rfl rfl) ?_
    refine s_q rfl rfl rfl (q_load_row rfl Tryz.underlying3 rfl rfl (by rfl)) ?_
    refine s_q rfl rfl rfl (q_eql rfl rfl rfl) ?_
    refine s_q rfl rfl rfl (q_move rfl rfl) ?_
    refine s_or2 4 5 16 21 20 _ _ rfl rfl rfl rfl rfl rfl (fun h21 => by
        try simp at h21
        refine s_g rfl rfl rfl rfl rfl rfl (q_move rfl rfl) ?_
        refine s_g rfl rfl rfl rfl rfl rfl ((by first | exact q_index_strN rfl Tryz.underlying9 rfl rfl (by omega) | exact q_index_str rfl Tryz.underlying9 rfl rfl (by omega))) ?_
        refine s_g rfl rfl rfl rfl rfl rfl (quiet_call rfl rfl rfl Tryz.func56 (by kernel_rfl) rfl ((fun w _ => indexByte_pure [36, 96, 92] (nth l 1 0) w))) ?_
        refine s_g rfl rfl rfl rfl rfl rfl (q_geq rfl rfl rfl) ?_
        exact s_val rfl
      ) (wanted_n rfl) rfl rfl rfl ?_
    refine s_q rfl rfl rfl (q_move rfl rfl) ?_
    refine s_or2 10 11 22 33 32 _ _ rfl rfl rfl rfl rfl rfl (fun h33 => by
        try simp at h33
        refine s_g rfl rfl rfl rfl rfl rfl (q_move rfl rfl) ?_
        refine s_g rfl rfl rfl rfl rfl rfl (q_nilCheck rfl rfl) ?_
        refine s_g rfl rfl rfl rfl rfl rfl (q_fieldAddr rfl Tryz.underlying169 rfl rfl ti3 rfl rfl) ?_
        refine s_g rfl rfl rfl rfl rfl rfl (q_load_row rfl Tryz.underlying3 rfl rfl (by rfl)) ?_
        refine s_g rfl rfl rfl rfl rfl rfl (q_eql rfl rfl rfl) ?_
        refine s_g rfl rfl rfl rfl rfl rfl (q_move rfl rfl) ?_
        refine s_and2 3 17 28 32 31 _ _ rfl rfl rfl rfl rfl rfl (fun h32 => by
            try simp at h32
            refine s_g rfl rfl rfl rfl rfl rfl (q_move rfl rfl) ?_
            refine s_g rfl rfl rfl rfl rfl rfl ((by first | exact q_index_strN rfl Tryz.underlying9 rfl rfl (by omega) | exact q_index_str rfl Tryz.underlying9 rfl rfl (by omega))) ?_
            refine s_g rfl rfl rfl rfl rfl rfl (q_eql_u8c rfl rfl rfl rfl) ?_
            exact s_val rfl
          ) (wanted_g rfl rfl rfl rfl) rfl rfl rfl ?_
        exact s_val rfl
      ) (wanted_n rfl) rfl rfl rfl ?_
    refine s_q rfl rfl rfl (q_assign rfl rfl) ?_
    refine s_done ?_
    refine n_then ?_
    refine t_seq ?_
    refine t_block ?_
    refine t_seq ?_
    refine t_region ?_
    refine l_q rfl rfl rfl (q_move rfl rfl) ?_
    refine l_q rfl rfl rfl ((by first | exact q_index_strN rfl Tryz.underlying9 rfl rfl (by omega) | exact q_index_str rfl Tryz.underlying9 rfl rfl (by omega))) ?_
    refine l_q rfl rfl rfl (q_eql_u8c rfl rfl rfl rfl) ?_
    refine l_q rfl rfl rfl (q_assign rfl rfl) ?_
    refine l_nil ?_
    refine n_then ?_
    refine t_cond rfl (fun hc1 => ?_) (fun hc1 => ?_)
    · skip
      simp only [decide_eq_true_eq, decide_eq_false_iff_not] at hc1
      have h2 : nth l 1 0 = 10 := hc1
      refine t_skip ?_
      refine n_block ?_
      refine n_then ?_
      refine t_seq ?_
      refine t_region ?_
      refine l_q rfl rfl rfl (q_assign rfl rfl) ?_
      refine l_nil ?_
      refine n_then ?_
      refine t_ret ?_
      refine n_ret1 rfl rfl (fun w' hw => ?_)
      -- leaf 1
      exact ⟨_, rfl, I, _, ⟨rfl, v, L, 2, rfl, rfl, hWL, (by rw [bslP, if_neg h1, if_pos h2])⟩, subC_st hw⟩
    · skip
      simp only [decide_eq_true_eq, decide_eq_false_iff_not] at hc1
      have h2 : ¬ nth l 1 0 = 10 := hc1
      refine t_seq ?_
      refine t_region ?_
      refine l_q rfl rfl rfl (q_move rfl rfl) ?_
      refine l_q rfl rfl rfl (q_assign rfl rfl) ?_
      refine l_nil ?_
      refine n_then ?_
      refine t_cond rfl (fun hc2 => ?_) (fun hc2 => ?_)
      · skip
        have h3 := bsl_takes hc2
        refine t_region ?_
        refine l_q rfl rfl rfl (q_move rfl rfl) ?_
        refine l_q rfl rfl rfl (q_move rfl rfl) ?_
        refine l_q rfl rfl rfl (q_slice_str rfl Tryz.underlying9 rfl rfl rfl (by omega)) ?_
        refine l_e rfl rfl rfl (eff_call rfl rfl rfl Tryz.func113 (by kernel_rfl) rfl (fun w hw => lit_calls b s kd dp v L ((l.drop 1).take 1) true _ _ _ w (by omega) (by first | omega | (simp; done) | (rw [List.length_take, List.length_drop]; omega)) (fun x hx => by have := sumT_mem hx; omega) (picks_st2 (row b 169 (rdC s kd dp v)) (tvec 148 5 partC v L) hw))) ?_
        rintro _ _ _ ⟨rfl, rfl, v45, rfl⟩
        refine l_nil ?_
        refine n_block ?_
        refine n_then ?_
        refine t_seq ?_
        refine t_region ?_
        refine l_q rfl rfl rfl (q_assign rfl rfl) ?_
        refine l_nil ?_
        refine n_then ?_
        refine t_ret ?_
        refine n_ret1 rfl rfl (fun w' hw => ?_)
        -- leaf 2
        exact ⟨_, rfl, I, _, ⟨rfl, v45, litE L ((l.drop 1).take 1) true, 2, rfl, rfl, litE_words hWL, (by rw [bslP, if_neg h1, if_neg h2, if_pos h3, second_one, litE_pt])⟩, subC_st hw⟩
      · skip
        have h3 := bsl_not hc2
        refine t_seq ?_
        refine t_region ?_
        refine l_q rfl rfl rfl (q_move rfl rfl) ?_
        refine l_e rfl rfl rfl (eff_call rfl rfl rfl Tryz.func113 (by kernel_rfl) rfl (fun w hw => lit_calls b s kd dp v L [92] true _ _ _ w (by omega) (by first | omega | (simp; done) | (simp; omega)) (fun x hx => by have := sumT_mem hx; omega) (picks_st2 (row b 169 (rdC s kd dp v)) (tvec 148 5 partC v L) hw))) ?_
        rintro _ _ _ ⟨rfl, rfl, v35, rfl⟩
        refine l_nil ?_
        refine n_then ?_
        refine t_seq ?_
        refine t_region ?_
        refine l_q rfl rfl rfl (q_assign rfl rfl) ?_
        refine l_nil ?_
        refine n_then ?_
        refine t_ret ?_
        refine n_ret_block ?_
        refine n_ret_then ?_
        refine n_ret1 rfl rfl (fun w' hw => ?_)
        -- leaf 3
        exact ⟨_, rfl, I, _, ⟨rfl, v35, litE L [92] true, 1, rfl, rfl, litE_words hWL, (by rw [bslP, if_neg h1, if_neg h2, if_neg h3, litE_pt])⟩, subC_st hw⟩
set_option maxRecDepth 10000 in
theorem expr_pure (s : List UInt8) (q : Bool) (w : World) (hs : s.length ≤ 100000000) : Pure Tryz.prog 135 [str s, .bool q] w (.bool (exprB s q)) := by
  refine enter Tryz.func135 rfl Tryz.ntmps135 rfl (St.start w (look w) (Le.refl _)) ?_
  refine t_seq ?_
  refine t_region ?_
  refine l_q rfl rfl rfl (q_assign rfl rfl) ?_
  refine l_nil ?_
  refine n_then ?_
  refine t_seq ?_
  refine t_seq ?_
  refine t_region ?_
  refine l_q rfl rfl rfl (q_move rfl rfl) ?_
  refine l_q rfl rfl rfl (quiet_call rfl rfl rfl Tryz.func109 (by kernel_rfl) rfl ((fun w _ => hasPrefix_pure s [40] w))) ?_
  refine l_q rfl rfl rfl (q_not rfl rfl) ?_
  refine l_nil ?_
  refine n_then ?_
  refine t_cond rfl (fun hc0 => ?_) (fun hc0 => ?_)
  · skip
    have hc0 : stB s [40] = false := by simpa using hc0
    refine t_seq ?_
    refine t_region ?_
    refine l_q rfl rfl rfl (q_assign rfl rfl) ?_
    refine l_nil ?_
    refine n_then ?_
    refine t_ret ?_
    refine n_ret_then ?_
    refine n_ret1 rfl rfl (fun w' hw => ?_)
    -- leaf 0
    refine ⟨?_, hw.below⟩
    rw [exprB, hc0]; rfl
  · skip
    have hc0 : stB s [40] = true := by simpa using hc0
    refine t_skip ?_
    refine n_then ?_
    refine t_seq ?_
    refine t_region ?_
    refine l_q rfl rfl rfl (q_move rfl rfl) ?_
    refine l_q rfl rfl rfl (q_cat rfl rfl rfl (by first | omega | (simp only [List.length_append, List.length_cons, List.length_nil, List.length_take, List.length_drop]; omega))) ?_
    refine l_q rfl rfl rfl (q_move rfl rfl) ?_
    refine l_q rfl rfl rfl (quiet_call rfl rfl rfl Tryz.func131 (by kernel_rfl) rfl ((fun w _ => end_pure (36 :: s) 0 0 q w (by simp only [List.length_cons]; omega)))) ?_
    rw [expr_end hc0]
    refine l_q rfl rfl rfl (q_move rfl rfl) ?_
    refine l_q rfl rfl rfl (q_extract rfl rfl rfl) ?_
    refine l_q rfl rfl rfl (q_extract rfl rfl rfl) ?_
    refine l_q rfl rfl rfl (q_extract rfl rfl rfl) ?_
    refine l_q rfl rfl rfl (q_assign rfl rfl) ?_
    refine l_q rfl rfl rfl (q_assign rfl rfl) ?_
    refine l_q rfl rfl rfl (q_assign rfl rfl) ?_
    refine l_nil ?_
    refine n_then ?_
    refine t_seq ?_
    refine t_qreg ?_
    refine s_q rfl rfl rfl (q_move rfl rfl) ?_
    refine s_q rfl rfl rfl (q_eql rfl rfl rfl) ?_
    refine s_q rfl rfl rfl (q_move rfl rfl) ?_
    refine s_and2 5 2 21 27 26 _ _ rfl rfl rfl rfl rfl rfl (fun h27 => by
        try simp at h27
        refine s_g rfl rfl rfl rfl rfl rfl (q_move rfl rfl) ?_
        refine s_g rfl rfl rfl rfl rfl rfl (q_move rfl rfl) ?_
        refine s_g rfl rfl rfl rfl rfl rfl (q_len_str rfl Tryz.underlying9 rfl) ?_
        refine s_g rfl rfl rfl rfl rfl rfl (q_add64 rfl rfl rfl (by omega)) ?_
        refine s_g rfl rfl rfl rfl rfl rfl (q_eql rfl rfl rfl) ?_
        exact s_val rfl
      ) (wanted_n rfl) rfl rfl rfl ?_
    refine s_q rfl rfl rfl (q_assign rfl rfl) ?_
    refine s_done ?_
    refine n_then ?_
    refine t_ret ?_
    refine n_ret1 rfl rfl (fun w' hw => ?_)
    -- leaf 1
    refine ⟨?_, hw.below⟩
    rw [← expr_val hc0]
end Go.Tri
