/-
  A scanner: substitutions.
-/
import Derived.Test.YtbogmbdfjgnfaaaGreatDoorEA2
namespace Go.Tri
open Go.Proofs Go.RowKit
def closeB (br : Bool) (o : Nat) (b : UInt8) : Bool := br && decide (b = 125) || (!br && decide (b = 41) && decide (o = 0))
theorem dlr_step {B : List UInt8 → SR} {D : Bool → List UInt8 → SR} {br q : Bool} {f o : Nat} {l : List UInt8} {r : LR} {j : Nat} (h : r = (dlrL B D br q f o l).on j) (hl : l ≠ []) (hf : l.length ≤ f) :
    (nth l 0 0 = 34 → (∀ a e, B l = .bad a e → r = .bad (j + a) e) ∧ ∀ k, B l = .ok k → r = (dlrL B D br q (f - 1) o (l.drop k)).on (j + k)) ∧
    (nth l 0 0 ≠ 34 → (closeB br o (nth l 0 0) = true → r = .ok (j + 1)) ∧ (closeB br o (nth l 0 0) = false → (∀ a e, insideP D q (!q) l = .bad a e → r = .bad (j + a) e) ∧ ∀ k, insideP D q (!q) l = .ok k → r = (dlrL B D br q (f - 1) (opens br o (nth l 0 0)) (l.drop k)).on (j + k))) := by
  have hp := List.length_pos_iff.2 hl
  obtain ⟨g, rfl⟩ : ∃ g, f = g + 1 := ⟨f - 1, by omega⟩
  refine ⟨fun h1 => ⟨fun a e h2 => ?_, fun k h2 => ?_⟩, fun h1 => ⟨fun h2 => ?_, fun h2 => ⟨fun a e h3 => ?_, fun k h3 => ?_⟩⟩⟩
  · rw [h, dlrL, if_neg hl, if_pos h1, h2]; rfl
  · rw [h, dlrL, if_neg hl, if_pos h1, h2, Nat.add_sub_cancel]
    exact LR.on_on _ _ _
  · rw [closeB] at h2
    rw [h, dlrL, if_neg hl, if_neg h1, if_pos h2]; rfl
  · rw [h, dlrL, if_neg hl, if_neg h1, if_neg (fun h => by rw [closeB, h] at h2; cases h2), h3]; rfl
  · rw [h, dlrL, if_neg hl, if_neg h1, if_neg (fun h => by rw [closeB, h] at h2; cases h2), h3, Nat.add_sub_cancel]
    exact LR.on_on _ _ _
theorem opens_pos {br : Bool} {o : Nat} {b : UInt8} (h : closeB br o b = false) (h2 : (!br && decide (b = 41)) = true) : 1 ≤ o := by
  unfold closeB at h
  rw [Bool.and_eq_true] at h2
  rw [h2.1, h2.2] at h
  rcases Nat.eq_zero_or_pos o with h3 | h3
  · subst h3; simp at h
  · exact h3
theorem close_or {br : Bool} {o : Nat} {b : UInt8} (h : (!br && decide (b = 41) && decide ((o : Int) = 0)) = true) : closeB br o b = true := by
  unfold closeB
  rw [Bool.or_eq_true]
  right
  rw [Bool.and_eq_true, decide_eq_true_eq] at h ⊢
  exact ⟨h.1, by omega⟩
theorem close_not {br : Bool} {o : Nat} {b : UInt8} (h1 : (br && decide (b = 125)) = false) (h : (!br && decide (b = 41) && decide ((o : Int) = 0)) = false) : closeB br o b = false := by
  unfold closeB
  rw [h1, Bool.false_or]
  cases hx : (!br && decide (b = 41)) with
  | false => rfl
  | true =>
    rw [hx, Bool.true_and, decide_eq_false_iff_not] at h
    rw [Bool.true_and, decide_eq_false_iff_not]
    omega
set_option maxRecDepth 10000 in
theorem dollar_calls (m : Nat) (hD : ∀ n, m = n + 1 → DoubleOk n ∧ DollarOk n) (b : Nat) (s : List UInt8) (i d : Nat) (q : Bool) (I : Look) (F : List HA) (w0 w : World) (hm : 25 - d = m) (hd : d ≤ 30) (hs : s.length ≤ 2305843009213693952) (hi : i + 2 ≤ s.length) (hw0 : St w0 I (row b 242 (scC s i 0 0) :: F) w) : ScanC 148 242 b s i [.int .i64 (d : Int), .bool q] ((lv m).2 q (s.drop i)) I F w := by
  refine enter Tryz.func148 rfl Tryz.ntmps148 rfl (hw0.self) ?_
  refine t_seq ?_
  refine t_region ?_
  refine l_q rfl rfl rfl (q_assign rfl rfl) ?_
  refine l_nil ?_
  refine n_then ?_
  refine t_scope rfl ?_
  refine t_seq ?_
  refine t_qdraw mo (by kernel_rfl) (fun _ _ _ _ _ h => h) ?_
  refine s_q rfl rfl rfl (q_move rfl rfl) ?_
  refine s_q rfl rfl rfl (q_nilCheck rfl rfl) ?_
  refine s_q rfl rfl rfl (q_fieldAddr rfl Tryz.underlying242 rfl rfl ti3 rfl rfl) ?_
  refine s_q rfl rfl rfl (q_load_row rfl Tryz.underlying3 rfl rfl (by rfl)) ?_
  refine s_q rfl rfl rfl (q_move rfl rfl) ?_
  refine s_q rfl rfl rfl (q_nilCheck rfl rfl) ?_
  refine s_q rfl rfl rfl (q_fieldAddr rfl Tryz.underlying242 rfl rfl ti9 rfl rfl) ?_
  refine s_q rfl rfl rfl (q_load_row rfl Tryz.underlying9 rfl rfl (by rfl)) ?_
  refine s_q rfl rfl rfl (q_move rfl rfl) ?_
  refine s_q rfl rfl rfl (q_nilCheck rfl rfl) ?_
  refine s_q rfl rfl rfl (q_fieldAddr rfl Tryz.underlying242 rfl rfl ti3 rfl rfl) ?_
  refine s_q rfl rfl rfl (q_load_row rfl Tryz.underlying3 rfl rfl (by rfl)) ?_
  refine s_q rfl rfl rfl (q_add64 rfl rfl rfl (by omega)) ?_
  refine s_q rfl rfl rfl ((by first | exact q_index_strN rfl Tryz.underlying9 rfl rfl (by omega) | exact q_index_str rfl Tryz.underlying9 rfl rfl (by omega))) ?_
  refine s_q rfl rfl rfl (q_eql_u8c rfl rfl rfl rfl) ?_
  refine s_q rfl rfl rfl (q_assign rfl rfl) ?_
  refine s_q rfl rfl rfl (q_assign rfl rfl) ?_
  refine s_q rfl rfl rfl (q_assign rfl rfl) ?_
  refine s_done ?_
  refine n_then ?_
  refine t_seq ?_
  refine t_seq ?_
  refine t_region ?_
  refine l_q rfl rfl rfl (q_move rfl rfl) ?_
  refine l_q rfl rfl rfl (q_gtr rfl rfl rfl) ?_
  refine l_nil ?_
  refine n_then ?_
  refine t_cond rfl (fun hc0 => ?_) (fun hc0 => ?_)
  · skip
    try simp at hc0
    obtain rfl : m = 0 := by omega
    refine t_seq ?_
    refine t_region ?_
    refine l_q rfl rfl rfl (q_move rfl rfl) ?_
    refine l_q rfl rfl rfl (q_move rfl rfl) ?_
    refine l_e rfl rfl rfl (eff_call rfl rfl rfl Tryz.func165 (by kernel_rfl) rfl (fun w hw => fail_calls b s i i 52 _ _ _ w (picks_st1 (row b 242 (scC s i 0 0)) hw))) ?_
    rintro _ _ _ ⟨rfl, rfl, rfl⟩
    refine l_q rfl rfl rfl (q_assign rfl rfl) ?_
    refine l_nil ?_
    refine n_then ?_
    refine t_ret ?_
    refine n_ret_then ?_
    refine n_ret_scope ?_
    refine n_ret1 rfl rfl (fun w' hw => ?_)
    -- leaf 0
    exact ⟨_, rfl, I, _, ⟨rfl, false, i, i, 52, rfl, (by exact ⟨rfl, rfl, rfl⟩), (by omega), rfl⟩, hw⟩
  · skip
    try simp at hc0
    obtain ⟨n, rfl⟩ : ∃ n, m = n + 1 := ⟨m - 1, by omega⟩
    refine t_skip ?_
    refine n_then ?_
    refine t_cutE (ι := Bool) (fun zz => zz = braceB (s.drop i)) (fun zz => [(2, .bool (q && zz)), (8, .bool zz)]) [(0, _), (1, _), (6, _), (7, _), (9, _), (27, _)] (fun zz => I) (fun zz => (row b 242 (scC s i 0 0) :: F)) (sub_cons rfl (sub_cons rfl (sub_cons rfl (sub_cons rfl (sub_cons rfl (sub_cons rfl sub_nil)))))) ?_ ?_
    · skip
      refine t_qreg ?_
      refine s_q rfl rfl rfl (q_move rfl rfl) ?_
      refine s_q rfl rfl rfl (q_move rfl rfl) ?_
      refine s_and2 1 1 32 34 33 _ _ rfl rfl rfl rfl rfl rfl (fun h34 => by
          try simp at h34
          refine s_g rfl rfl rfl rfl rfl rfl (q_move rfl rfl) ?_
          exact s_val rfl
        ) (wanted_n rfl) rfl rfl rfl ?_
      refine s_q rfl rfl rfl (q_assign rfl rfl) ?_
      refine s_done ?_
      refine n_cut (braceB (s.drop i)) ?_ (sub_cons' rfl (by unfold braceB; rw [nth_drop_one]; rfl) (sub_cons' rfl (by unfold braceB; rw [nth_drop_one]; rfl) (sub_nil))) (sub_cons rfl (sub_cons rfl (sub_cons rfl (sub_cons rfl (sub_cons rfl (sub_cons rfl sub_nil)))))) (fun _ h => by try dsimp only; exact subC_st h)
      · try dsimp only
        all_goals rfl
    rintro br hbr
    try dsimp only at *
    have hlv : (lv (n + 1)).2 q (s.drop i) = (dlrL (lv n).1 (lv n).2 br (q && br) (s.drop i).length 0 (s.drop (i + 2))).close 2 53 := by show dlrP _ _ _ _ = _; unfold dlrP; rw [List.drop_drop, ← hbr]
    refine t_seq ?_
    refine t_region ?_
    refine l_q rfl rfl rfl (q_move rfl rfl) ?_
    refine l_e rfl rfl rfl (eff_call rfl rfl rfl Tryz.func166 (by kernel_rfl) rfl (fun w hw => skip_calls b s i 2 0 0 _ _ _ w (by omega) hs (by omega) (picks_st1 (row b 242 (scC s i 0 0)) hw))) ?_
    rintro _ _ _ ⟨rfl, rfl, rfl⟩
    refine l_nil ?_
    refine n_then ?_
    refine t_seq ?_
    first | refine t_label ?_ | refine t_skip ?_
    refine n_then ?_
    refine t_seq ?_
    refine t_block ?_
    refine t_loopE (ι := Nat × Nat × Nat) (fun zz => i + 2 ≤ zz.1 ∧ zz.1 ≤ s.length ∧ dlrL (lv n).1 (lv n).2 br (q && br) (s.drop i).length 0 (s.drop (i + 2)) = (dlrL (lv n).1 (lv n).2 br (q && br) zz.2.2 zz.2.1 (s.drop zz.1)).on (zz.1 - (i + 2)) ∧ (s.drop zz.1).length ≤ zz.2.2 ∧ zz.2.1 ≤ zz.1) (fun zz => s.length - zz.1) (fun zz => [(9, .int .i64 (zz.2.1 : Int))]) [(2, _), (8, _), (0, _), (1, _), (7, _), (27, _)] (fun zz => I) (fun zz => (row b 242 (scC s zz.1 0 0) :: F)) (i + 2, 0, (s.drop i).length) ?_ (sub_cons rfl sub_nil) (sub_cons rfl (sub_cons rfl (sub_cons rfl (sub_cons rfl (sub_cons rfl (sub_cons rfl sub_nil)))))) (fun _ h => by dsimp only; rw [show min (i + 2) s.length = i + 2 by omega] at h; exact subC_st h) ?_
    · try dsimp only
      refine ⟨Nat.le_refl _, by omega, by rw [Nat.sub_self, LR.on_zero], by rw [List.length_drop, List.length_drop]; omega, Nat.zero_le _⟩
    rintro ⟨j, o, g⟩ ⟨hj1, hj2, hx, hfl, hoj⟩
    try dsimp only at *
    refine t_seq ?_
    refine t_seq ?_
    refine t_qdraw mo (by kernel_rfl) (fun _ _ _ _ _ h => h) ?_
    refine s_q rfl rfl rfl (q_move rfl rfl) ?_
    refine s_q rfl rfl rfl (q_nilCheck rfl rfl) ?_
    refine s_q rfl rfl rfl (q_fieldAddr rfl Tryz.underlying242 rfl rfl ti3 rfl rfl) ?_
    refine s_q rfl rfl rfl (q_load_row rfl Tryz.underlying3 rfl rfl (by rfl)) ?_
    refine s_q rfl rfl rfl (q_move rfl rfl) ?_
    refine s_q rfl rfl rfl (q_nilCheck rfl rfl) ?_
    refine s_q rfl rfl rfl (q_fieldAddr rfl Tryz.underlying242 rfl rfl ti9 rfl rfl) ?_
    refine s_q rfl rfl rfl (q_load_row rfl Tryz.underlying9 rfl rfl (by rfl)) ?_
    refine s_q rfl rfl rfl (q_len_str rfl Tryz.underlying9 rfl) ?_
    refine s_q rfl rfl rfl (q_lss rfl rfl rfl) ?_
    refine s_done ?_
    refine n_then ?_
    refine t_cond rfl (fun hc1 => ?_) (fun hc1 => ?_)
    · skip
      try simp at hc1
      have hj : j < s.length := by omega
      have hstp := dlr_step hx (drop_ne hj) hfl
      refine t_skip ?_
      refine n_then ?_
      refine t_block ?_
      refine t_cutE (ι := Nat) (fun zz => zz = opens br o (nth s j 0) ∧ nth s j 0 ≠ 34 ∧ closeB br o (nth s j 0) = false ∧ zz ≤ j + 1) (fun zz => [(9, .int .i64 (zz : Int))]) [(2, _), (8, _), (0, _), (1, _), (7, _), (27, _), (46, _)] (fun zz => I) (fun zz => (row b 242 (scC s j 0 0) :: F)) (sub_cons rfl (sub_cons rfl (sub_cons rfl (sub_cons rfl (sub_cons rfl (sub_cons rfl (sub_cons rfl sub_nil))))))) ?_ ?_
      · skip
        refine t_seq ?_
        refine t_qdraw mo (by kernel_rfl) (fun _ _ _ _ _ h => h) ?_
        refine s_q rfl rfl rfl (q_move rfl rfl) ?_
        refine s_q rfl rfl rfl (q_nilCheck rfl rfl) ?_
        refine s_q rfl rfl rfl (q_fieldAddr rfl Tryz.underlying242 rfl rfl ti9 rfl rfl) ?_
        refine s_q rfl rfl rfl (q_load_row rfl Tryz.underlying9 rfl rfl (by rfl)) ?_
        refine s_q rfl rfl rfl (q_move rfl rfl) ?_
        refine s_q rfl rfl rfl (q_nilCheck rfl rfl) ?_
        refine s_q rfl rfl rfl (q_fieldAddr rfl Tryz.underlying242 rfl rfl ti3 rfl rfl) ?_
        refine s_q rfl rfl rfl (q_load_row rfl Tryz.underlying3 rfl rfl (by rfl)) ?_
        refine s_q rfl rfl rfl ((by first | exact q_index_strN rfl Tryz.underlying9 rfl rfl (by omega) | exact q_index_str rfl Tryz.underlying9 rfl rfl (by omega))) ?_
        refine s_q rfl rfl rfl (q_assign rfl rfl) ?_
        refine s_done ?_
        refine n_then ?_
        refine t_block ?_
        refine t_seq ?_
        refine t_region ?_
        refine l_q rfl rfl rfl (q_move rfl rfl) ?_
        refine l_q rfl rfl rfl (q_eql_u8c rfl rfl rfl rfl) ?_
        refine l_q rfl rfl rfl (q_assign rfl rfl) ?_
        refine l_nil ?_
        refine n_then ?_
        refine t_cond rfl (fun hc2 => ?_) (fun hc2 => ?_)
        · skip
          simp only [decide_eq_true_eq, decide_eq_false_iff_not] at hc2
          have hc2 : nth s j 0 = 34 := hc2
          have hno := hstp.1 (by rw [nth_drop_head]; exact hc2)
          have hfit := (lv_fit n).1 _ (drop_ne hj)
          refine t_seq ?_
          refine t_seq ?_
          refine t_region ?_
          refine l_q rfl rfl rfl (q_move rfl rfl) ?_
          refine l_q rfl rfl rfl (q_move rfl rfl) ?_
          refine l_q rfl rfl rfl (q_add64 rfl rfl rfl (by omega)) ?_
          refine l_e rfl rfl rfl (eff_call rfl rfl rfl Tryz.func147 (by kernel_rfl) rfl (fun w hw => (hD n rfl).1 b s j (d + 1) _ _ _ w (by omega) (by omega) hs hj (picks_st1 (row b 242 (scC s j 0 0)) hw))) ?_
          rintro _ _ _ ⟨rfl, ok62, i62, a62, e62, rfl, hr62, hi62, rfl⟩
          refine l_q rfl rfl rfl (q_not rfl rfl) ?_
          refine l_nil ?_
          refine n_then ?_
          refine t_cond rfl (fun hc3 => ?_) (fun hc3 => ?_)
          · skip
            have hk : ok62 = false := by simpa using hc3
            obtain ⟨a, h1, h2⟩ := hr62.f hk
            have h3 := hno.1 a e62 h1
            refine t_seq ?_
            refine t_region ?_
            refine l_q rfl rfl rfl (q_assign rfl rfl) ?_
            refine l_nil ?_
            refine n_then ?_
            refine t_ret ?_
            refine n_ret_then ?_
            refine n_ret_block ?_
            refine n_ret_then ?_
            refine n_ret_block ?_
            refine n_ret_then ?_
            refine n_ret_block ?_
            refine n_ret_then ?_
            refine n_ret_scope ?_
            refine n_ret1 rfl rfl (fun w' hw => ?_)
            -- leaf 1
            exact ⟨_, rfl, I, _, ⟨rfl, false, i62, a62, e62, rfl, (by rw [hlv, h3]; exact ⟨rfl, (by show _ = i + (2 + (j - (i + 2) + a)); omega), rfl⟩), hi62, rfl⟩, hw⟩
          · skip
            have hk : ok62 = true := by simpa using hc3
            obtain ⟨k, h1, rfl, rfl, rfl⟩ := hr62.t hk
            have h3 := hno.2 k h1
            rw [h1] at hfit
            rw [List.drop_drop] at h3
            refine t_skip ?_
            refine n_then ?_
            refine t_exit ?_
            refine n_exit_other rfl ?_
            refine n_exit_then ?_
            refine n_exit_block ?_
            refine n_roundE ((j + k, o, g - 1)) ?_ ?_ (sub_cons rfl sub_nil) (sub_cons rfl (sub_cons rfl (sub_cons rfl (sub_cons rfl (sub_cons rfl (sub_cons rfl sub_nil)))))) (fun _ h => by try dsimp only; exact subC_st h)
            · try dsimp only
              have h4 : 1 ≤ k := hfit.1
              refine ⟨by omega, hi62, by rw [h3]; congr 1; omega, ?_, by omega⟩
              rw [List.length_drop] at hfl ⊢
              omega
            · try dsimp only
              have h4 : 1 ≤ k := hfit.1
              show s.length - (j + k) < s.length - j
              omega
        · skip
          simp only [decide_eq_true_eq, decide_eq_false_iff_not] at hc2
          have hc2 : ¬ nth s j 0 = 34 := hc2
          refine t_seq ?_
          refine t_seq ?_
          refine t_qreg ?_
          refine s_q rfl rfl rfl (q_move rfl rfl) ?_
          refine s_q rfl rfl rfl (q_move rfl rfl) ?_
          refine s_and2 2 1 66 69 68 _ _ rfl rfl rfl rfl rfl rfl (fun h69 => by
              try simp at h69
              refine s_g rfl rfl rfl rfl rfl rfl (q_move rfl rfl) ?_
              refine s_g rfl rfl rfl rfl rfl rfl (q_eql_u8c rfl rfl rfl rfl) ?_
              exact s_val rfl
            ) (wanted_n rfl) rfl rfl rfl ?_
          refine s_q rfl rfl rfl (q_assign rfl rfl) ?_
          refine s_done ?_
          refine n_then ?_
          refine t_cond rfl (fun hc4 => ?_) (fun hc4 => ?_)
          · skip
            refine t_skip ?_
            refine n_then ?_
            refine t_cond rfl (fun hc5 => ?_) (fun hc5 => ?_)
            · skip
              have hcl : closeB br o (nth s j 0) = true := by rw [closeB, Bool.or_eq_true]; exact .inl hc4
              have hok := (hstp.2 (by rw [nth_drop_head]; exact hc2)).1 (by rw [nth_drop_head]; exact hcl)
              refine t_seq ?_
              refine t_region ?_
              refine l_q rfl rfl rfl (q_move rfl rfl) ?_
              refine l_e rfl rfl rfl (eff_call rfl rfl rfl Tryz.func166 (by kernel_rfl) rfl (fun w hw => skip_calls b s j 1 0 0 _ _ _ w (by omega) hs (by omega) (picks_st1 (row b 242 (scC s j 0 0)) hw))) ?_
              rintro _ _ _ ⟨rfl, rfl, rfl⟩
              refine l_nil ?_
              refine n_then ?_
              refine t_seq ?_
              refine t_region ?_
              refine l_q rfl rfl rfl (q_assign rfl rfl) ?_
              refine l_nil ?_
              refine n_then ?_
              refine t_ret ?_
              refine n_ret_block ?_
              refine n_ret_then ?_
              refine n_ret_block ?_
              refine n_ret_then ?_
              refine n_ret_block ?_
              refine n_ret_then ?_
              refine n_ret_scope ?_
              refine n_ret1 rfl rfl (fun w' hw => ?_)
              -- leaf 2
              exact ⟨_, rfl, I, _, ⟨rfl, true, (min (j + 1) s.length), 0, 0, rfl, (by rw [hlv, hok]; exact ⟨rfl, (by show _ = i + (2 + (j - (i + 2) + 1)); omega), rfl, rfl⟩), (by omega), rfl⟩, hw⟩
            · skip
              exfalso
              rw [hc4] at hc5
              cases hc5
          · skip
            refine t_qreg ?_
            refine s_q rfl rfl rfl (q_move rfl rfl) ?_
            refine s_q rfl rfl rfl (q_not rfl rfl) ?_
            refine s_q rfl rfl rfl (q_move rfl rfl) ?_
            refine s_and2 2 2 72 75 74 _ _ rfl rfl rfl rfl rfl rfl (fun h75 => by
                try simp at h75
                refine s_g rfl rfl rfl rfl rfl rfl (q_move rfl rfl) ?_
                refine s_g rfl rfl rfl rfl rfl rfl (q_eql_u8c rfl rfl rfl rfl) ?_
                exact s_val rfl
              ) (wanted_n rfl) rfl rfl rfl ?_
            refine s_q rfl rfl rfl (q_move rfl rfl) ?_
            refine s_and2 2 6 76 79 78 _ _ rfl rfl rfl rfl rfl rfl (fun h79 => by
                try simp at h79
                refine s_g rfl rfl rfl rfl rfl rfl (q_move rfl rfl) ?_
                refine s_g rfl rfl rfl rfl rfl rfl (q_eql rfl rfl rfl) ?_
                exact s_val rfl
              ) (wanted_n rfl) rfl rfl rfl ?_
            refine s_q rfl rfl rfl (q_assign rfl rfl) ?_
            refine s_done ?_
            refine n_then ?_
            refine t_cond rfl (fun hc6 => ?_) (fun hc6 => ?_)
            · skip
              have hcl : closeB br o (nth s j 0) = true := close_or hc6
              have hok := (hstp.2 (by rw [nth_drop_head]; exact hc2)).1 (by rw [nth_drop_head]; exact hcl)
              refine t_seq ?_
              refine t_region ?_
              refine l_q rfl rfl rfl (q_move rfl rfl) ?_
              refine l_e rfl rfl rfl (eff_call rfl rfl rfl Tryz.func166 (by kernel_rfl) rfl (fun w hw => skip_calls b s j 1 0 0 _ _ _ w (by omega) hs (by omega) (picks_st1 (row b 242 (scC s j 0 0)) hw))) ?_
              rintro _ _ _ ⟨rfl, rfl, rfl⟩
              refine l_nil ?_
              refine n_then ?_
              refine t_seq ?_
              refine t_region ?_
              refine l_q rfl rfl rfl (q_assign rfl rfl) ?_
              refine l_nil ?_
              refine n_then ?_
              refine t_ret ?_
              refine n_ret_block ?_
              refine n_ret_then ?_
              refine n_ret_block ?_
              refine n_ret_then ?_
              refine n_ret_block ?_
              refine n_ret_then ?_
              refine n_ret_scope ?_
              refine n_ret1 rfl rfl (fun w' hw => ?_)
              -- leaf 3
              exact ⟨_, rfl, I, _, ⟨rfl, true, (min (j + 1) s.length), 0, 0, rfl, (by rw [hlv, hok]; exact ⟨rfl, (by show _ = i + (2 + (j - (i + 2) + 1)); omega), rfl, rfl⟩), (by omega), rfl⟩, hw⟩
            · skip
              have hcl : closeB br o (nth s j 0) = false := close_not hc4 hc6
              refine t_seq ?_
              refine t_qreg ?_
              refine s_q rfl rfl rfl (q_move rfl rfl) ?_
              refine s_q rfl rfl rfl (q_not rfl rfl) ?_
              refine s_q rfl rfl rfl (q_move rfl rfl) ?_
              refine s_and2 2 2 85 88 87 _ _ rfl rfl rfl rfl rfl rfl (fun h88 => by
                  try simp at h88
                  refine s_g rfl rfl rfl rfl rfl rfl (q_move rfl rfl) ?_
                  refine s_g rfl rfl rfl rfl rfl rfl (q_eql_u8c rfl rfl rfl rfl) ?_
                  exact s_val rfl
                ) (wanted_n rfl) rfl rfl rfl ?_
              refine s_q rfl rfl rfl (q_assign rfl rfl) ?_
              refine s_done ?_
              refine n_then ?_
              refine t_cond rfl (fun hc7 => ?_) (fun hc7 => ?_)
              · skip
                have hc7 : (!br && decide (nth s j 0 = 41)) = true := hc7
                refine t_region ?_
                refine l_q rfl rfl rfl (q_move rfl rfl) ?_
                refine l_q rfl rfl rfl (q_sub64 rfl rfl rfl (by omega)) ?_
                refine l_q rfl rfl rfl (q_assign rfl rfl) ?_
                refine l_nil ?_
                refine n_block ?_
                refine n_cut (o - 1) ?_ (sub_cons' rfl (congrArg (Value.int IntKind.i64) (by have := opens_pos hcl hc7; omega)) (sub_nil)) (sub_cons rfl (sub_cons rfl (sub_cons rfl (sub_cons rfl (sub_cons rfl (sub_cons rfl (sub_cons rfl sub_nil))))))) (fun _ h => by try dsimp only; exact subC_st h)
                · try dsimp only
                  refine ⟨by rw [opens, if_pos hc7], hc2, hcl, by omega⟩
              · skip
                have hc7 : (!br && decide (nth s j 0 = 41)) = false := hc7
                refine t_seq ?_
                refine t_qreg ?_
                refine s_q rfl rfl rfl (q_move rfl rfl) ?_
                refine s_q rfl rfl rfl (q_not rfl rfl) ?_
                refine s_q rfl rfl rfl (q_move rfl rfl) ?_
                refine s_and2 2 2 94 97 96 _ _ rfl rfl rfl rfl rfl rfl (fun h97 => by
                    try simp at h97
                    refine s_g rfl rfl rfl rfl rfl rfl (q_move rfl rfl) ?_
                    refine s_g rfl rfl rfl rfl rfl rfl (q_eql_u8c rfl rfl rfl rfl) ?_
                    exact s_val rfl
                  ) (wanted_n rfl) rfl rfl rfl ?_
                refine s_q rfl rfl rfl (q_assign rfl rfl) ?_
                refine s_done ?_
                refine n_then ?_
                refine t_cond rfl (fun hc8 => ?_) (fun hc8 => ?_)
                · skip
                  have hc8 : (!br && decide (nth s j 0 = 40)) = true := hc8
                  refine t_region ?_
                  refine l_q rfl rfl rfl (q_move rfl rfl) ?_
                  refine l_q rfl rfl rfl (q_add64 rfl rfl rfl (by omega)) ?_
                  refine l_q rfl rfl rfl (q_assign rfl rfl) ?_
                  refine l_nil ?_
                  refine n_block ?_
                  refine n_cut (o + 1) ?_ (sub_cons rfl sub_nil) (sub_cons rfl (sub_cons rfl (sub_cons rfl (sub_cons rfl (sub_cons rfl (sub_cons rfl (sub_cons rfl sub_nil))))))) (fun _ h => by try dsimp only; exact subC_st h)
                  · try dsimp only
                    refine ⟨by rw [opens, if_neg (fun h => by rw [h] at hc7; cases hc7), if_pos hc8], hc2, hcl, by omega⟩
                · skip
                  have hc8 : (!br && decide (nth s j 0 = 40)) = false := hc8
                  refine t_skip ?_
                  refine n_block ?_
                  refine n_cut (o) ?_ (sub_cons rfl sub_nil) (sub_cons rfl (sub_cons rfl (sub_cons rfl (sub_cons rfl (sub_cons rfl (sub_cons rfl (sub_cons rfl sub_nil))))))) (fun _ h => by try dsimp only; exact subC_st h)
                  · try dsimp only
                    refine ⟨by rw [opens, if_neg (fun h => by rw [h] at hc7; cases hc7), if_neg (fun h => by rw [h] at hc8; cases hc8)], hc2, hcl, by omega⟩
      rintro o2 ⟨ho2, hc34, hcl, hob2⟩
      try dsimp only at *
      rw [nth_drop_head] at hstp
      have hno := (hstp.2 hc34).2 hcl
      have hfit := insideP_fit (dlr := (lv n).2) (q := (q && br)) (apo := !(q && br)) (lv_fit n).2 (drop_ne hj)
      refine t_seq ?_
      refine t_region ?_
      refine l_q rfl rfl rfl (q_move rfl rfl) ?_
      refine l_q rfl rfl rfl (q_move rfl rfl) ?_
      refine l_q rfl rfl rfl (q_move rfl rfl) ?_
      refine l_q rfl rfl rfl (q_move rfl rfl) ?_
      refine l_q rfl rfl rfl (q_not rfl rfl) ?_
      refine l_e rfl rfl rfl (eff_call rfl rfl rfl Tryz.func167 (by kernel_rfl) rfl (fun w hw => inside_calls n (hD n rfl).2 b s j d (q && br) (!(q && br)) _ _ _ w (by omega) (by omega) hs hj (picks_st1 (row b 242 (scC s j 0 0)) hw))) ?_
      rintro _ _ _ ⟨rfl, ok105, i105, a105, e105, rfl, hr105, hi105, rfl⟩
      refine l_q rfl rfl rfl (q_not rfl rfl) ?_
      refine l_nil ?_
      refine n_then ?_
      refine t_cond rfl (fun hc9 => ?_) (fun hc9 => ?_)
      · skip
        have hk : ok105 = false := by simpa using hc9
        obtain ⟨a, h1, h2⟩ := hr105.f hk
        have h3 := hno.1 a e105 h1
        refine t_seq ?_
        refine t_region ?_
        refine l_q rfl rfl rfl (q_assign rfl rfl) ?_
        refine l_nil ?_
        refine n_then ?_
        refine t_ret ?_
        refine n_ret_block ?_
        refine n_ret_then ?_
        refine n_ret_block ?_
        refine n_ret_then ?_
        refine n_ret_scope ?_
        refine n_ret1 rfl rfl (fun w' hw => ?_)
        -- leaf 4
        exact ⟨_, rfl, I, _, ⟨rfl, false, i105, a105, e105, rfl, (by rw [hlv, h3]; exact ⟨rfl, (by show _ = i + (2 + (j - (i + 2) + a)); omega), rfl⟩), hi105, rfl⟩, hw⟩
      · skip
        have hk : ok105 = true := by simpa using hc9
        obtain ⟨k, h1, rfl, rfl, rfl⟩ := hr105.t hk
        have h3 := hno.2 k h1
        rw [h1] at hfit
        rw [List.drop_drop, ← ho2] at h3
        refine t_skip ?_
        refine n_block ?_
        refine n_roundE ((j + k, o2, g - 1)) ?_ ?_ (sub_cons rfl sub_nil) (sub_cons rfl (sub_cons rfl (sub_cons rfl (sub_cons rfl (sub_cons rfl (sub_cons rfl sub_nil)))))) (fun _ h => by try dsimp only; exact subC_st h)
        · try dsimp only
          have h4 : 1 ≤ k := hfit.1
          refine ⟨by omega, hi105, by rw [h3]; congr 1; omega, ?_, by omega⟩
          rw [List.length_drop] at hfl ⊢
          omega
        · try dsimp only
          have h4 : 1 ≤ k := hfit.1
          show s.length - (j + k) < s.length - j
          omega
    · skip
      try simp at hc1
      obtain rfl : j = s.length := by omega
      rw [List.drop_length, dlrL_end] at hx
      refine t_exit ?_
      refine n_exit_then ?_
      refine n_exit_then ?_
      refine n_exit_block ?_
      refine n_then ?_
      refine t_seq ?_
      refine t_region ?_
      refine l_q rfl rfl rfl (q_move rfl rfl) ?_
      refine l_q rfl rfl rfl (q_move rfl rfl) ?_
      refine l_e rfl rfl rfl (eff_call rfl rfl rfl Tryz.func165 (by kernel_rfl) rfl (fun w hw => fail_calls b s s.length i 53 _ _ _ w (picks_st1 (row b 242 (scC s s.length 0 0)) hw))) ?_
      rintro _ _ _ ⟨rfl, rfl, rfl⟩
      refine l_q rfl rfl rfl (q_assign rfl rfl) ?_
      refine l_nil ?_
      refine n_then ?_
      refine t_ret ?_
      refine n_ret_scope ?_
      refine n_ret1 rfl rfl (fun w' hw => ?_)
      -- leaf 5
      exact ⟨_, rfl, I, _, ⟨rfl, false, s.length, i, 53, rfl, (by rw [hlv, hx]; exact ⟨rfl, rfl, rfl⟩), (by omega), rfl⟩, hw⟩
theorem both_ok : ∀ m, DoubleOk m ∧ DollarOk m
  | 0 => ⟨fun b s i d I F w0 w h1 h2 h3 h4 h5 => double_calls 0 (fun n h => by cases h) b s i d I F w0 w h1 h2 h3 h4 h5, fun b s i d q I F w0 w h1 h2 h3 h4 h5 => dollar_calls 0 (fun n h => by cases h) b s i d q I F w0 w h1 h2 h3 h4 h5⟩
  | m + 1 => ⟨fun b s i d I F w0 w h1 h2 h3 h4 h5 => double_calls (m + 1) (fun n h => by cases h; exact (both_ok m).2) b s i d I F w0 w h1 h2 h3 h4 h5, fun b s i d q I F w0 w h1 h2 h3 h4 h5 => dollar_calls (m + 1) (fun n h => by cases h; exact both_ok m) b s i d q I F w0 w h1 h2 h3 h4 h5⟩
end Go.Tri
