/-
  A scanner: quotes.
-/
import Derived.Test.YtbogmbdfjgnfaaaGreatDoorEA1
namespace Go.Tri
open Go.Proofs Go.RowKit
theorem single_ix (l : List UInt8) : (Lib.indexByte l 39 < 0 → Lib.indexByte l 39 = -1) ∧ (¬ Lib.indexByte l 39 < 0 → ∃ m : Nat, Lib.indexByte l 39 = m ∧ m < l.length) := by
  have hge := Lib.indexByte_ge l 39
  refine ⟨fun h => by omega, fun h => ?_⟩
  obtain ⟨i, hi⟩ : ∃ i : Nat, Lib.indexByte l 39 = i := ⟨(Lib.indexByte l 39).toNat, by omega⟩
  exact ⟨i, hi, (indexByte_some hi).1⟩
theorem dbl_step {D : Bool → List UInt8 → SR} {f : Nat} {l : List UInt8} {r : LR} {j : Nat} (h : r = (dblL D f l).on j) (hl : l ≠ []) (hf : l.length ≤ f) :
    (stB l [34] = true → r = .ok (j + 1)) ∧ (stB l [34] = false → (∀ a e, insideP D true false l = .bad a e → r = .bad (j + a) e) ∧ ∀ k, insideP D true false l = .ok k → r = (dblL D (f - 1) (l.drop k)).on (j + k)) := by
  have hp := List.length_pos_iff.2 hl
  obtain ⟨g, rfl⟩ : ∃ g, f = g + 1 := ⟨f - 1, by omega⟩
  refine ⟨fun h1 => ?_, fun h1 => ⟨fun a e h2 => ?_, fun k h2 => ?_⟩⟩
  · rw [h, dblL, if_neg hl, if_pos h1]; rfl
  · rw [h, dblL, if_neg hl, if_neg (by rw [h1]; simp), h2]; rfl
  · rw [h, dblL, if_neg hl, if_neg (by rw [h1]; simp), h2, Nat.add_sub_cancel]
    exact LR.on_on _ _ _
theorem drop_ne {s : List UInt8} {i : Nat} (h : i < s.length) : s.drop i ≠ [] := List.ne_nil_of_length_pos (by rw [List.length_drop]; omega)
theorem nth_drop_head (s : List UInt8) (i : Nat) : nth (s.drop i) 0 0 = nth s i 0 := by
  unfold nth; rw [List.getD_eq_getElem?_getD, List.getD_eq_getElem?_getD, List.getElem?_drop]; rfl
theorem nth_drop_one (s : List UInt8) (i : Nat) : nth (s.drop i) 1 0 = nth s (i + 1) 0 := by
  unfold nth; rw [List.getD_eq_getElem?_getD, List.getD_eq_getElem?_getD, List.getElem?_drop]
set_option maxRecDepth 10000 in
theorem single_calls (b : Nat) (s : List UInt8) (i : Nat) (I : Look) (F : List HA) (w0 w : World) (hs : s.length ≤ 2305843009213693952) (hi : i < s.length) (hw0 : St w0 I (row b 242 (scC s i 0 0) :: F) w) : ScanC 146 242 b s i [] (singleP (s.drop i)) I F w := by
  refine enter Tryz.func146 rfl Tryz.ntmps146 rfl (hw0.self) ?_
  refine t_seq ?_
  refine t_region ?_
  refine l_q rfl rfl rfl (q_assign rfl rfl) ?_
  refine l_nil ?_
  refine n_then ?_
  refine t_seq ?_
  refine t_qdraw mo (by kernel_rfl) (fun _ _ _ _ _ h => h) ?_
  refine s_q rfl rfl rfl (q_move rfl rfl) ?_
  refine s_q rfl rfl rfl (q_nilCheck rfl rfl) ?_
  refine s_q rfl rfl rfl (q_fieldAddr rfl Tryz.underlying242 rfl rfl ti9 rfl rfl) ?_
  refine s_q rfl rfl rfl (q_load_row rfl Tryz.underlying9 rfl rfl (by rfl)) ?_
  refine s_q rfl rfl rfl (q_move rfl rfl) ?_
  refine s_q rfl rfl rfl (q_nilCheck rfl rfl) ?_
  refine s_q rfl rfl rfl (q_fieldAddr rfl Tryz.underlying242 rfl rfl ti3 rfl rfl) ?_
  refine s_q rfl rfl rfl (q_load_row rfl Tryz.underlying3 rfl rfl (by rfl)) ?_
  refine s_q rfl rfl rfl (q_add64 rfl rfl rfl (by omega)) ?_
  refine s_q rfl rfl rfl (q_slice_str_from rfl Tryz.underlying9 rfl rfl (by omega)) ?_
  refine s_q rfl rfl rfl (quiet_call rfl rfl rfl Tryz.func56 (by kernel_rfl) rfl ((fun w _ => indexByte_pure (s.drop (i + 1)) 39 w))) ?_
  refine s_q rfl rfl rfl (q_assign rfl rfl) ?_
  refine s_done ?_
  refine n_then ?_
  refine t_seq ?_
  refine t_seq ?_
  have hix := single_ix (s.drop (i + 1))
  have hsp : singleP (s.drop i) = if Lib.indexByte (s.drop (i + 1)) 39 < 0 then .bad 0 53 else .ok ((Lib.indexByte (s.drop (i + 1)) 39).toNat + 2) := by unfold singleP; rw [List.drop_drop]
  refine t_region ?_
  refine l_q rfl rfl rfl (q_move rfl rfl) ?_
  refine l_q rfl rfl rfl (q_lss rfl rfl rfl) ?_
  refine l_nil ?_
  refine n_then ?_
  refine t_cond rfl (fun hc0 => ?_) (fun hc0 => ?_)
  · skip
    try simp at hc0
    rw [if_pos hc0] at hsp
    refine t_seq ?_
    refine t_region ?_
    refine l_q rfl rfl rfl (q_move rfl rfl) ?_
    refine l_q rfl rfl rfl (q_move rfl rfl) ?_
    refine l_q rfl rfl rfl (q_nilCheck rfl rfl) ?_
    refine l_q rfl rfl rfl (q_fieldAddr rfl Tryz.underlying242 rfl rfl ti3 rfl rfl) ?_
    refine l_q rfl rfl rfl (q_load_row rfl Tryz.underlying3 rfl rfl (by rfl)) ?_
    refine l_e rfl rfl rfl (eff_call rfl rfl rfl Tryz.func165 (by kernel_rfl) rfl (fun w hw => fail_calls b s i i 53 _ _ _ w (picks_st1 (row b 242 (scC s i 0 0)) hw))) ?_
    rintro _ _ _ ⟨rfl, rfl, rfl⟩
    refine l_q rfl rfl rfl (q_assign rfl rfl) ?_
    refine l_nil ?_
    refine n_then ?_
    refine t_ret ?_
    refine n_ret_then ?_
    refine n_ret1 rfl rfl (fun w' hw => ?_)
    -- leaf 0
    exact ⟨_, rfl, I, _, ⟨rfl, false, i, i, 53, rfl, (by rw [hsp]; exact ⟨rfl, rfl, rfl⟩), (by omega), rfl⟩, hw⟩
  · skip
    try simp at hc0
    have hc0 : ¬ Lib.indexByte (s.drop (i + 1)) 39 < 0 := by omega
    rw [if_neg hc0] at hsp
    obtain ⟨m, hm, hml⟩ := hix.2 hc0
    rw [List.length_drop] at hml
    rw [hm] at hsp ⊢
    refine t_skip ?_
    refine n_then ?_
    refine t_seq ?_
    refine t_region ?_
    refine l_q rfl rfl rfl (q_move rfl rfl) ?_
    refine l_q rfl rfl rfl (q_move rfl rfl) ?_
    refine l_q rfl rfl rfl (q_add64 rfl rfl rfl (by omega)) ?_
    refine l_e rfl rfl rfl (eff_call rfl rfl rfl Tryz.func166 (by kernel_rfl) rfl (fun w hw => skip_calls b s i (m + 2) 0 0 _ _ _ w (by omega) hs (by omega) (picks_st1 (row b 242 (scC s i 0 0)) hw))) ?_
    rintro _ _ _ ⟨rfl, rfl, rfl⟩
    refine l_nil ?_
    refine n_then ?_
    refine t_seq ?_
    refine t_region ?_
    refine l_q rfl rfl rfl (q_assign rfl rfl) ?_
    refine l_nil ?_
    refine n_then ?_
    refine t_ret ?_
    refine n_ret1 rfl rfl (fun w' hw => ?_)
    -- leaf 1
    exact ⟨_, rfl, I, _, ⟨rfl, true, (min (i + (m + 2)) s.length), 0, 0, rfl, (by rw [hsp]; exact ⟨rfl, (by show min (i + (m + 2)) s.length = i + (((m : Int)).toNat + 2); omega), rfl, rfl⟩), (by omega), rfl⟩, hw⟩
set_option maxRecDepth 10000 in
theorem inside_calls (n : Nat) (hD : DollarOk n) (b : Nat) (s : List UInt8) (i d : Nat) (q apo : Bool) (I : Look) (F : List HA) (w0 w : World) (hn : 24 - d = n) (hd : d ≤ 24) (hs : s.length ≤ 2305843009213693952) (hi : i < s.length) (hw0 : St w0 I (row b 242 (scC s i 0 0) :: F) w) : ScanC 167 242 b s i [.int .i64 (d : Int), .bool q, .bool apo] (insideP (lv n).2 q apo (s.drop i)) I F w := by
  have hdl : (s.drop i).length = s.length - i := List.length_drop
  refine enter Tryz.func167 rfl Tryz.ntmps167 rfl (hw0.self) ?_
  refine t_seq ?_
  refine t_region ?_
  refine l_q rfl rfl rfl (q_assign rfl rfl) ?_
  refine l_nil ?_
  refine n_then ?_
  refine t_seq ?_
  refine t_block ?_
  refine t_seq ?_
  refine t_region ?_
  refine l_q rfl rfl rfl (q_move rfl rfl) ?_
  refine l_q rfl rfl rfl (quiet_call rfl rfl rfl Tryz.func145 (by kernel_rfl) rfl ((fun w hw => starts_pure b s [92] i 0 0 w (by omega) (rowed_of hw)))) ?_
  refine l_q rfl rfl rfl (q_assign rfl rfl) ?_
  refine l_nil ?_
  refine n_then ?_
  refine t_cond rfl (fun hc0 => ?_) (fun hc0 => ?_)
  · skip
    refine t_region ?_
    refine l_q rfl rfl rfl (q_move rfl rfl) ?_
    refine l_e rfl rfl rfl (eff_call rfl rfl rfl Tryz.func166 (by kernel_rfl) rfl (fun w hw => skip_calls b s i 2 0 0 _ _ _ w (by omega) hs (by omega) (picks_st1 (row b 242 (scC s i 0 0)) hw))) ?_
    rintro _ _ _ ⟨rfl, rfl, rfl⟩
    refine l_nil ?_
    refine n_block ?_
    refine n_then ?_
    refine t_seq ?_
    refine t_region ?_
    refine l_q rfl rfl rfl (q_assign rfl rfl) ?_
    refine l_nil ?_
    refine n_then ?_
    refine t_ret ?_
    refine n_ret1 rfl rfl (fun w' hw => ?_)
    -- leaf 0
    exact ⟨_, rfl, I, _, ⟨rfl, true, (min (i + 2) s.length), 0, 0, rfl, (by rw [insideP, if_pos hc0]; exact ⟨rfl, (by omega), rfl, rfl⟩), (by omega), rfl⟩, hw⟩
  · skip
    refine t_seq ?_
    refine t_qreg ?_
    refine s_q rfl rfl rfl (q_move rfl rfl) ?_
    refine s_q rfl rfl rfl (quiet_call rfl rfl rfl Tryz.func145 (by kernel_rfl) rfl ((fun w hw => starts_pure b s [39] i 0 0 w (by omega) (rowed_of hw)))) ?_
    refine s_q rfl rfl rfl (q_move rfl rfl) ?_
    refine s_and2 1 2 19 21 20 _ _ rfl rfl rfl rfl rfl rfl (fun h21 => by
        try simp at h21
        refine s_g rfl rfl rfl rfl rfl rfl (q_move rfl rfl) ?_
        exact s_val rfl
      ) (wanted_n rfl) rfl rfl rfl ?_
    refine s_q rfl rfl rfl (q_assign rfl rfl) ?_
    refine s_done ?_
    refine n_then ?_
    refine t_cond rfl (fun hc1 => ?_) (fun hc1 => ?_)
    · skip
      refine t_seq ?_
      refine t_region ?_
      refine l_q rfl rfl rfl (q_move rfl rfl) ?_
      refine l_e rfl rfl rfl (eff_call rfl rfl rfl Tryz.func146 (by kernel_rfl) rfl (fun w hw => single_calls b s i _ _ _ w hs hi (picks_st1 (row b 242 (scC s i 0 0)) hw))) ?_
      rintro _ _ _ ⟨rfl, ok23, i23, a23, e23, rfl, hr23, hi23, rfl⟩
      refine l_q rfl rfl rfl (q_assign rfl rfl) ?_
      refine l_nil ?_
      refine n_then ?_
      refine t_ret ?_
      refine n_ret_block ?_
      refine n_ret_then ?_
      refine n_ret1 rfl rfl (fun w' hw => ?_)
      -- leaf 1
      exact ⟨_, rfl, I, _, ⟨rfl, ok23, i23, a23, e23, rfl, (by rw [insideP, if_neg (by rw [hc0]; simp), if_pos hc1]; exact hr23), hi23, rfl⟩, hw⟩
    · skip
      refine t_seq ?_
      refine t_region ?_
      refine l_q rfl rfl rfl (q_move rfl rfl) ?_
      refine l_q rfl rfl rfl (quiet_call rfl rfl rfl Tryz.func145 (by kernel_rfl) rfl ((fun w hw => starts_pure b s [96] i 0 0 w (by omega) (rowed_of hw)))) ?_
      refine l_q rfl rfl rfl (q_assign rfl rfl) ?_
      refine l_nil ?_
      refine n_then ?_
      refine t_cond rfl (fun hc2 => ?_) (fun hc2 => ?_)
      · skip
        refine t_seq ?_
        refine t_region ?_
        refine l_q rfl rfl rfl (q_move rfl rfl) ?_
        refine l_q rfl rfl rfl (q_move rfl rfl) ?_
        refine l_q rfl rfl rfl (q_nilCheck rfl rfl) ?_
        refine l_q rfl rfl rfl (q_fieldAddr rfl Tryz.underlying242 rfl rfl ti3 rfl rfl) ?_
        refine l_q rfl rfl rfl (q_load_row rfl Tryz.underlying3 rfl rfl (by rfl)) ?_
        refine l_e rfl rfl rfl (eff_call rfl rfl rfl Tryz.func165 (by kernel_rfl) rfl (fun w hw => fail_calls b s i i 55 _ _ _ w (picks_st1 (row b 242 (scC s i 0 0)) hw))) ?_
        rintro _ _ _ ⟨rfl, rfl, rfl⟩
        refine l_q rfl rfl rfl (q_assign rfl rfl) ?_
        refine l_nil ?_
        refine n_then ?_
        refine t_ret ?_
        refine n_ret_block ?_
        refine n_ret_then ?_
        refine n_ret1 rfl rfl (fun w' hw => ?_)
        -- leaf 2
        exact ⟨_, rfl, I, _, ⟨rfl, false, i, i, 55, rfl, (by rw [insideP, if_neg (by rw [hc0]; simp), if_neg (fun h => by rw [h] at hc1; cases hc1), if_pos hc2]; exact ⟨rfl, rfl, rfl⟩), (by omega), rfl⟩, hw⟩
      · skip
        refine t_seq ?_
        refine t_qreg ?_
        refine s_q rfl rfl rfl (q_move rfl rfl) ?_
        refine s_q rfl rfl rfl (quiet_call rfl rfl rfl Tryz.func145 (by kernel_rfl) rfl ((fun w hw => starts_pure b s [36, 40] i 0 0 w (by omega) (rowed_of hw)))) ?_
        refine s_q rfl rfl rfl (q_move rfl rfl) ?_
        refine s_or2 2 2 36 39 38 _ _ rfl rfl rfl rfl rfl rfl (fun h39 => by
            try simp at h39
            refine s_g rfl rfl rfl rfl rfl rfl (q_move rfl rfl) ?_
            refine s_g rfl rfl rfl rfl rfl rfl (quiet_call rfl rfl rfl Tryz.func145 (by kernel_rfl) rfl ((fun w hw => starts_pure b s [36, 123] i 0 0 w (by omega) (rowed_of hw)))) ?_
            exact s_val rfl
          ) (wanted_n rfl) rfl rfl rfl ?_
        refine s_q rfl rfl rfl (q_assign rfl rfl) ?_
        refine s_done ?_
        refine n_then ?_
        refine t_cond rfl (fun hc3 => ?_) (fun hc3 => ?_)
        · skip
          have h2l : i + 2 ≤ s.length := by
            have h3 : (stB (s.drop i) [36, 40] || stB (s.drop i) [36, 123]) = true := hc3
            rw [Bool.or_eq_true] at h3
            rcases h3 with h3 | h3 <;> (have := stB_len h3; simp at this; omega)
          refine t_seq ?_
          refine t_region ?_
          refine l_q rfl rfl rfl (q_move rfl rfl) ?_
          refine l_q rfl rfl rfl (q_move rfl rfl) ?_
          refine l_q rfl rfl rfl (q_add64 rfl rfl rfl (by omega)) ?_
          refine l_q rfl rfl rfl (q_move rfl rfl) ?_
          refine l_e rfl rfl rfl (eff_call rfl rfl rfl Tryz.func148 (by kernel_rfl) rfl (fun w hw => hD b s i (d + 1) q _ _ _ w (by omega) (by omega) hs h2l (picks_st1 (row b 242 (scC s i 0 0)) hw))) ?_
          rintro _ _ _ ⟨rfl, ok44, i44, a44, e44, rfl, hr44, hi44, rfl⟩
          refine l_q rfl rfl rfl (q_assign rfl rfl) ?_
          refine l_nil ?_
          refine n_then ?_
          refine t_ret ?_
          refine n_ret_block ?_
          refine n_ret_then ?_
          refine n_ret1 rfl rfl (fun w' hw => ?_)
          -- leaf 3
          exact ⟨_, rfl, I, _, ⟨rfl, ok44, i44, a44, e44, rfl, (by rw [insideP, if_neg (by rw [hc0]; simp), if_neg (fun h => by rw [h] at hc1; cases hc1), if_neg (by rw [hc2]; simp), if_pos hc3]; exact hr44), hi44, rfl⟩, hw⟩
        · skip
          refine t_region ?_
          refine l_q rfl rfl rfl (q_move rfl rfl) ?_
          refine l_e rfl rfl rfl (eff_call rfl rfl rfl Tryz.func166 (by kernel_rfl) rfl (fun w hw => skip_calls b s i 1 0 0 _ _ _ w (by omega) hs (by omega) (picks_st1 (row b 242 (scC s i 0 0)) hw))) ?_
          rintro _ _ _ ⟨rfl, rfl, rfl⟩
          refine l_nil ?_
          refine n_block ?_
          refine n_then ?_
          refine t_seq ?_
          refine t_region ?_
          refine l_q rfl rfl rfl (q_assign rfl rfl) ?_
          refine l_nil ?_
          refine n_then ?_
          refine t_ret ?_
          refine n_ret1 rfl rfl (fun w' hw => ?_)
          -- leaf 4
          exact ⟨_, rfl, I, _, ⟨rfl, true, (min (i + 1) s.length), 0, 0, rfl, (by rw [insideP, if_neg (by rw [hc0]; simp), if_neg (fun h => by rw [h] at hc1; cases hc1), if_neg (by rw [hc2]; simp), if_neg (fun h => by rw [h] at hc3; cases hc3)]; exact ⟨rfl, (by omega), rfl, rfl⟩), (by omega), rfl⟩, hw⟩
set_option maxRecDepth 10000 in
theorem double_calls (m : Nat) (hD : ∀ n, m = n + 1 → DollarOk n) (b : Nat) (s : List UInt8) (i d : Nat) (I : Look) (F : List HA) (w0 w : World) (hm : 25 - d = m) (hd : d ≤ 30) (hs : s.length ≤ 2305843009213693952) (hi : i < s.length) (hw0 : St w0 I (row b 242 (scC s i 0 0) :: F) w) : ScanC 147 242 b s i [.int .i64 (d : Int)] ((lv m).1 (s.drop i)) I F w := by
  refine enter Tryz.func147 rfl Tryz.ntmps147 rfl (hw0.self) ?_
  refine t_seq ?_
  refine t_region ?_
  refine l_q rfl rfl rfl (q_assign rfl rfl) ?_
  refine l_nil ?_
  refine n_then ?_
  refine t_seq ?_
  refine t_region ?_
  refine l_q rfl rfl rfl (q_move rfl rfl) ?_
  refine l_q rfl rfl rfl (q_nilCheck rfl rfl) ?_
  refine l_q rfl rfl rfl (q_fieldAddr rfl Tryz.underlying242 rfl rfl ti3 rfl rfl) ?_
  refine l_q rfl rfl rfl (q_load_row rfl Tryz.underlying3 rfl rfl (by rfl)) ?_
  refine l_q rfl rfl rfl (q_assign rfl rfl) ?_
  refine l_nil ?_
  refine n_then ?_
  refine t_seq ?_
  refine t_seq ?_
  refine t_region ?_
  refine l_q rfl rfl rfl (q_move rfl rfl) ?_
  refine l_q rfl rfl rfl (q_gtr rfl rfl rfl) ?_
  refine l_nil ?_
  refine n_then ?_
  refine t_cond rfl (fun hc0 => ?_) (fun hc0 => ?_)
  · skip
    try simp at hc0
    obtain rfl : m = 0 := by omega
    refine t_seq ?_
    refine t_region ?_
    refine l_q rfl rfl rfl (q_move rfl rfl) ?_
    refine l_q rfl rfl rfl (q_move rfl rfl) ?_
    refine l_e rfl rfl rfl (eff_call rfl rfl rfl Tryz.func165 (by kernel_rfl) rfl (fun w hw => fail_calls b s i i 52 _ _ _ w (picks_st1 (row b 242 (scC s i 0 0)) hw))) ?_
    rintro _ _ _ ⟨rfl, rfl, rfl⟩
    refine l_q rfl rfl rfl (q_assign rfl rfl) ?_
    refine l_nil ?_
    refine n_then ?_
    refine t_ret ?_
    refine n_ret_then ?_
    refine n_ret1 rfl rfl (fun w' hw => ?_)
    -- leaf 0
    exact ⟨_, rfl, I, _, ⟨rfl, false, i, i, 52, rfl, (by exact ⟨rfl, rfl, rfl⟩), (by omega), rfl⟩, hw⟩
  · skip
    try simp at hc0
    obtain ⟨n, rfl⟩ : ∃ n, m = n + 1 := ⟨m - 1, by omega⟩
    have hlv : (lv (n + 1)).1 (s.drop i) = (dblL (lv n).2 (s.drop i).length (s.drop (i + 1))).close 1 53 := by show dblP _ _ = _; unfold dblP; rw [List.drop_drop]
    refine t_skip ?_
    refine n_then ?_
    refine t_seq ?_
    refine t_seq ?_
    refine t_region ?_
    refine l_q rfl rfl rfl (q_move rfl rfl) ?_
    refine l_e rfl rfl rfl (eff_call rfl rfl rfl Tryz.func166 (by kernel_rfl) rfl (fun w hw => skip_calls b s i 1 0 0 _ _ _ w (by omega) hs (by omega) (picks_st1 (row b 242 (scC s i 0 0)) hw))) ?_
    rintro _ _ _ ⟨rfl, rfl, rfl⟩
    refine l_nil ?_
    refine n_then ?_
    refine t_block ?_
    refine t_loopE (ι := Nat × Nat) (fun zz => i + 1 ≤ zz.1 ∧ zz.1 ≤ s.length ∧ dblL (lv n).2 (s.drop i).length (s.drop (i + 1)) = (dblL (lv n).2 zz.2 (s.drop zz.1)).on (zz.1 - (i + 1)) ∧ (s.drop zz.1).length ≤ zz.2) (fun zz => s.length - zz.1) (fun zz => []) [(0, _), (1, _), (5, _), (11, _)] (fun zz => I) (fun zz => (row b 242 (scC s zz.1 0 0) :: F)) (i + 1, (s.drop i).length) ?_ (sub_nil) (sub_cons rfl (sub_cons rfl (sub_cons rfl (sub_cons rfl sub_nil)))) (fun _ h => by dsimp only; rw [show min (i + 1) s.length = i + 1 by omega] at h; exact subC_st h) ?_
    · try dsimp only
      refine ⟨Nat.le_refl _, by omega, by rw [Nat.sub_self, LR.on_zero], by rw [List.length_drop, List.length_drop]; omega⟩
    rintro ⟨j, g⟩ ⟨hj1, hj2, hx, hfl⟩
    try dsimp only at *
    refine t_seq ?_
    refine t_seq ?_
    refine t_qdraw mo (by kernel_rfl) (fun _ _ _ _ _ h => h) ?_
    refine s_q rfl rfl rfl (q_move rfl rfl) ?_
    refine s_q rfl rfl rfl (q_nilCheck rfl rfl) ?_
    refine s_q rfl rfl rfl (q_fieldAddr rfl Tryz.underlying242 rfl rfl ti3 rfl rfl) ?_
    refine s_q rfl rfl rfl (q_load_row rfl Tryz.underlying3 rfl rfl (by rfl)) ?_
    refine s_q rfl rfl rfl (q_move rfl rfl) ?_
    refine s_q rfl rfl rfl (q_nilCheck rfl rfl) ?_
    refine s_q rfl rfl rfl (q_fieldAddr rfl Tryz.underlying242 rfl rfl ti9 rfl rfl) ?_
    refine s_q rfl rfl rfl (q_load_row rfl Tryz.underlying9 rfl rfl (by rfl)) ?_
    refine s_q rfl rfl rfl (q_len_str rfl Tryz.underlying9 rfl) ?_
    refine s_q rfl rfl rfl (q_lss rfl rfl rfl) ?_
    refine s_done ?_
    refine n_then ?_
    refine t_cond rfl (fun hc1 => ?_) (fun hc1 => ?_)
    · skip
      try simp at hc1
      have hj : j < s.length := by omega
      have hst := dbl_step hx (drop_ne hj) hfl
      refine t_skip ?_
      refine n_then ?_
      refine t_block ?_
      refine t_seq ?_
      refine t_seq ?_
      refine t_region ?_
      refine l_q rfl rfl rfl (q_move rfl rfl) ?_
      refine l_q rfl rfl rfl (quiet_call rfl rfl rfl Tryz.func145 (by kernel_rfl) rfl ((fun w hw => starts_pure b s [34] j 0 0 w (by omega) (rowed_of hw)))) ?_
      refine l_nil ?_
      refine n_then ?_
      refine t_cond rfl (fun hc2 => ?_) (fun hc2 => ?_)
      · skip
        have hok := hst.1 hc2
        refine t_seq ?_
        refine t_region ?_
        refine l_q rfl rfl rfl (q_move rfl rfl) ?_
        refine l_e rfl rfl rfl (eff_call rfl rfl rfl Tryz.func166 (by kernel_rfl) rfl (fun w hw => skip_calls b s j 1 0 0 _ _ _ w (by omega) hs (by omega) (picks_st1 (row b 242 (scC s j 0 0)) hw))) ?_
        rintro _ _ _ ⟨rfl, rfl, rfl⟩
        refine l_nil ?_
        refine n_then ?_
        refine t_seq ?_
        refine t_region ?_
        refine l_q rfl rfl rfl (q_assign rfl rfl) ?_
        refine l_nil ?_
        refine n_then ?_
        refine t_ret ?_
        refine n_ret_then ?_
        refine n_ret_block ?_
        refine n_ret_then ?_
        refine n_ret_block ?_
        refine n_ret_then ?_
        refine n_ret1 rfl rfl (fun w' hw => ?_)
        -- leaf 1
        exact ⟨_, rfl, I, _, ⟨rfl, true, (min (j + 1) s.length), 0, 0, rfl, (by rw [hlv, hok]; exact ⟨rfl, (by show _ = i + (1 + (j - (i + 1) + 1)); omega), rfl, rfl⟩), (by omega), rfl⟩, hw⟩
      · skip
        have hno := hst.2 hc2
        have hfit := insideP_fit (dlr := (lv n).2) (q := true) (apo := false) (lv_fit n).2 (drop_ne hj)
        refine t_skip ?_
        refine n_then ?_
        refine t_seq ?_
        refine t_region ?_
        refine l_q rfl rfl rfl (q_move rfl rfl) ?_
        refine l_q rfl rfl rfl (q_move rfl rfl) ?_
        refine l_e rfl rfl rfl (eff_call rfl rfl rfl Tryz.func167 (by kernel_rfl) rfl (fun w hw => inside_calls n (hD n rfl) b s j d true false _ _ _ w (by omega) (by omega) hs hj (picks_st1 (row b 242 (scC s j 0 0)) hw))) ?_
        rintro _ _ _ ⟨rfl, ok33, i33, a33, e33, rfl, hr33, hi33, rfl⟩
        refine l_q rfl rfl rfl (q_not rfl rfl) ?_
        refine l_nil ?_
        refine n_then ?_
        refine t_cond rfl (fun hc3 => ?_) (fun hc3 => ?_)
        · skip
          have hk33 : ok33 = false := by simpa using hc3
          obtain ⟨a, h1, h2⟩ := hr33.f hk33
          have h3 := hno.1 a e33 h1
          refine t_seq ?_
          refine t_region ?_
          refine l_q rfl rfl rfl (q_assign rfl rfl) ?_
          refine l_nil ?_
          refine n_then ?_
          refine t_ret ?_
          refine n_ret_block ?_
          refine n_ret_then ?_
          refine n_ret_block ?_
          refine n_ret_then ?_
          refine n_ret1 rfl rfl (fun w' hw => ?_)
          -- leaf 2
          exact ⟨_, rfl, I, _, ⟨rfl, false, i33, a33, e33, rfl, (by rw [hlv, h3]; exact ⟨rfl, (by show _ = i + (1 + (j - (i + 1) + a)); omega), rfl⟩), hi33, rfl⟩, hw⟩
        · skip
          have hk33 : ok33 = true := by simpa using hc3
          obtain ⟨k, h1, rfl, rfl, rfl⟩ := hr33.t hk33
          have h3 := hno.2 k h1
          rw [h1] at hfit
          rw [List.drop_drop] at h3
          refine t_skip ?_
          refine n_block ?_
          refine n_roundE ((j + k, g - 1)) ?_ ?_ (sub_nil) (sub_cons rfl (sub_cons rfl (sub_cons rfl (sub_cons rfl sub_nil)))) (fun _ h => by try dsimp only; exact subC_st h)
          · try dsimp only
            refine ⟨by omega, hi33, by rw [h3]; congr 1; omega, ?_⟩
            have h4 : 1 ≤ k := hfit.1
            rw [List.length_drop] at hfl ⊢
            omega
          · try dsimp only
            have h4 : 1 ≤ k := hfit.1
            show s.length - (j + k) < s.length - j
            omega
    · skip
      try simp at hc1
      obtain rfl : j = s.length := by omega
      rw [List.drop_length, dblL_end] at hx
      refine t_exit ?_
      refine n_exit_then ?_
      refine n_exit_then ?_
      refine n_exit_block ?_
      refine n_then ?_
      refine t_seq ?_
      refine t_region ?_
      refine l_q rfl rfl rfl (q_move rfl rfl) ?_
      refine l_q rfl rfl rfl (q_move rfl rfl) ?_
      refine l_e rfl rfl rfl (eff_call rfl rfl rfl Tryz.func165 (by kernel_rfl) rfl (fun w hw => fail_calls b s s.length i 53 _ _ _ w (picks_st1 (row b 242 (scC s s.length 0 0)) hw))) ?_
      rintro _ _ _ ⟨rfl, rfl, rfl⟩
      refine l_q rfl rfl rfl (q_assign rfl rfl) ?_
      refine l_nil ?_
      refine n_then ?_
      refine t_ret ?_
      refine n_ret1 rfl rfl (fun w' hw => ?_)
      -- leaf 3
      exact ⟨_, rfl, I, _, ⟨rfl, false, s.length, i, 53, rfl, (by rw [hlv, hx]; exact ⟨rfl, rfl, rfl⟩), (by omega), rfl⟩, hw⟩
end Go.Tri
