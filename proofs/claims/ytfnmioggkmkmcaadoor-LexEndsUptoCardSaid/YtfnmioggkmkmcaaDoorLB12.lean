/-
  The reference: where what begins ends.
-/
import Derived.Test.YtfnmioggkmkmcaaDoorLB1
import Derived.Test.YtfnmioggkmkmcaaDoorPLex12
namespace Go.Tri
open Go.Proofs Go.RowKit
def RDollarOk (n : Nat) : Prop := ∀ (s : List UInt8) (i d : Nat) (q : Bool) (w : World), 24 - d = n → d ≤ 30 → s.length ≤ 2305843009213693952 → i ≤ s.length → Pure Tryd.prog 27 [str s, .int .i64 (i : Int), .int .i64 (d : Int), .bool q] w (.agg #[.int .i64 (dl (begB s i) (scE i ((lv n).2 q (s.drop i))) : Int), .int .i64 (dl (begB s i) (scP i ((lv n).2 q (s.drop i))) : Int), .int .i64 (dl (begB s i) (scX ((lv n).2 q (s.drop i))) : Int)])
def RDoubleOk (n : Nat) : Prop := ∀ (s : List UInt8) (i d : Nat) (w : World), 24 - d = n → d ≤ 30 → s.length ≤ 2305843009213693952 → i < s.length → Pure Tryd.prog 28 [str s, .int .i64 (i : Int), .int .i64 (d : Int)] w (.agg #[.int .i64 (scE i ((lv n).1 (s.drop i)) : Int), .int .i64 (scP i ((lv n).1 (s.drop i)) : Int), .int .i64 (scX ((lv n).1 (s.drop i)) : Int)])
theorem dlr_in {X : LR} {B : List UInt8 → SR} {D : Bool → List UInt8 → SR} {br q : Bool} {f o o2 : Nat} {l : List UInt8} {j : Nat} {b : UInt8} {P Q : Prop}
    (h : P ∧ (b ≠ 34 → Q ∧ (closeB br o b = false → (∀ a e, insideP D q (!q) l = .bad a e → X = .bad (j + a) e) ∧ ∀ k, insideP D q (!q) l = .ok k → X = (dlrL B D br q f (opens br o b) (l.drop k)).on (j + k))))
    (h34 : b ≠ 34) (hcl : closeB br o b = false) (ho : opens br o b = o2) : (∀ a e, insideP D q (!q) l = .bad a e → X = .bad (j + a) e) ∧ ∀ k, insideP D q (!q) l = .ok k → X = (dlrL B D br q f o2 (l.drop k)).on (j + k) := by
  have := (h.2 h34).2 hcl
  rw [ho] at this
  exact this
theorem opens_same {br : Bool} {o : Nat} {b : UInt8} (h1 : b ≠ 41) (h2 : b ≠ 40) : opens br o b = o := by
  unfold opens
  rw [decide_eq_false h1, decide_eq_false h2]; simp
theorem close_odd {br : Bool} {o : Nat} {b : UInt8} (h1 : b ≠ 125) (h2 : b ≠ 41) : closeB br o b = false := by
  unfold closeB
  rw [decide_eq_false h1, decide_eq_false h2]; simp
theorem beg_on {s : List UInt8} {i : Nat} (h : (!stB (s.drop i) [36, 40] && !stB (s.drop i) [36, 123]) = false) : begB s i = true := by
  unfold begB
  cases h1 : stB (s.drop i) [36, 40] <;> cases h2 : stB (s.drop i) [36, 123] <;> simp_all
theorem beg_off {s : List UInt8} {i : Nat} (h : (!stB (s.drop i) [36, 40] && !stB (s.drop i) [36, 123]) = true) : begB s i = false := by
  unfold begB
  rw [← Bool.not_or] at h
  simpa using h
theorem beg_other {c : UInt8} (h : c = 40 ∨ c = 123) : decide (c = 40) = !decide (c = 123) := by
  rcases h with rfl | rfl <;> decide
theorem quote_on {c : UInt8} {b : Bool} (h : (decide (c = 39) && !b) = true) : c = 39 ∧ (!b) = true := by
  rw [Bool.and_eq_true, decide_eq_true_eq] at h; exact h
theorem quote_off {c : UInt8} {b : Bool} (h : (decide (c = 39) && !b) = false) : ¬ (c = 39 ∧ (!b) = true) := fun ⟨h1, h2⟩ => by
  rw [h1, h2] at h; cases h
theorem opens_sub {x br : Bool} {o : Nat} {b : UInt8} (hx : x = !br) (h : (x && decide (b = 41)) = true) : opens br o b = o - 1 := by
  subst hx; rw [opens, if_pos h]
theorem opens_add {x br : Bool} {o : Nat} {b : UInt8} (hx : x = !br) (h : (x && decide (b = 40)) = true) : opens br o b = o + 1 := by
  subst hx
  have h1 := (Bool.and_eq_true _ _ ▸ h : _ ∧ _)
  have h2 : b = 40 := of_decide_eq_true h1.2
  rw [opens, if_neg (by rw [h2]; simp), if_pos h]
theorem opens_none {x br : Bool} {o : Nat} {b : UInt8} (hx : x = !br) (h1 : (x && decide (b = 41)) = false) (h2 : (x && decide (b = 40)) = false) : opens br o b = o := by
  subst hx
  rw [opens, if_neg (by rw [h1]; simp), if_neg (by rw [h2]; simp)]
theorem close_or2 {x br : Bool} {o : Nat} {b : UInt8} (hx : x = !br) (h : (x && decide (b = 41) && decide ((o : Int) = 0)) = true) : closeB br o b = true := by
  subst hx; exact close_or h
theorem close_not2 {x br : Bool} {o : Nat} {b : UInt8} (hx : x = !br) (h1 : (br && decide (b = 125)) = false) (h2 : (x && decide (b = 41) && decide ((o : Int) = 0)) = false) : closeB br o b = false := by
  subst hx; exact close_not h1 h2
set_option maxRecDepth 10000 in
theorem rat_pure (s t : List UInt8) (i : Nat) (w : World) (hs : s.length ≤ 2305843009213693952) (hi : i ≤ s.length) (ht : t.length ≤ 1000) : Pure Tryd.prog 47 [str s, .int .i64 (i : Int), str t] w (.bool (stB (s.drop i) t)) := by
  refine enter Tryd.func47 rfl Tryd.ntmps47 rfl (St.start w (look w) (Le.refl _)) ?_
  refine t_seq ?_
  refine t_region ?_
  refine l_q rfl rfl rfl (q_assign rfl rfl) ?_
  refine l_nil ?_
  refine n_then ?_
  refine t_seq ?_
  refine t_qreg ?_
  refine s_q rfl rfl rfl (q_move rfl rfl) ?_
  refine s_q rfl rfl rfl (q_move rfl rfl) ?_
  refine s_q rfl rfl rfl (q_len_str rfl Tryd.underlying9 rfl) ?_
  refine s_q rfl rfl rfl (q_add64 rfl rfl rfl (by omega)) ?_
  refine s_q rfl rfl rfl (q_move rfl rfl) ?_
  refine s_q rfl rfl rfl (q_len_str rfl Tryd.underlying9 rfl) ?_
  refine s_q rfl rfl rfl (q_leq rfl rfl rfl) ?_
  refine s_q rfl rfl rfl (q_move rfl rfl) ?_
  refine s_and2 9 7 14 24 23 _ _ rfl rfl rfl rfl rfl rfl (fun h24 => by
      try simp at h24
      refine s_g rfl rfl rfl rfl rfl rfl (q_move rfl rfl) ?_
      refine s_g rfl rfl rfl rfl rfl rfl (q_move rfl rfl) ?_
      refine s_g rfl rfl rfl rfl rfl rfl (q_move rfl rfl) ?_
      refine s_g rfl rfl rfl rfl rfl rfl (q_move rfl rfl) ?_
      refine s_g rfl rfl rfl rfl rfl rfl (q_len_str rfl Tryd.underlying9 rfl) ?_
      refine s_g rfl rfl rfl rfl rfl rfl (q_add64 rfl rfl rfl (by omega)) ?_
      refine s_g rfl rfl rfl rfl rfl rfl (q_slice_str rfl Tryd.underlying9 rfl rfl rfl (by omega)) ?_
      refine s_g rfl rfl rfl rfl rfl rfl (q_move rfl rfl) ?_
      refine s_g rfl rfl rfl rfl rfl rfl (q_eql_str rfl rfl rfl) ?_
      exact s_val rfl
    ) (wanted_n rfl) rfl rfl rfl ?_
  refine s_q rfl rfl rfl (q_assign rfl rfl) ?_
  refine s_done ?_
  refine n_then ?_
  refine t_ret ?_
  refine n_ret1 rfl rfl (fun w' hw => ?_)
  -- leaf 0
  refine ⟨?_, hw.below⟩
  refine congrArg (fun b => Ending.returned (Value.bool b)) ?_
  unfold stB
  by_cases h : i + t.length ≤ s.length
  · rw [decide_eq_true (show (i : Int) + (t.length : Int) ≤ (s.length : Int) by omega), Bool.true_and, show ((i : Int)).toNat = i by omega, show ((i : Int) + (t.length : Int)).toNat - i = t.length by omega]
  · rw [decide_eq_false (show ¬ (i : Int) + (t.length : Int) ≤ (s.length : Int) by omega), Bool.false_and]; exact (decide_eq_false (fun e => by have := congrArg List.length e; rw [List.length_take, List.length_drop] at this; omega)).symm
set_option maxRecDepth 10000 in
theorem rsingle_pure (s : List UInt8) (i : Nat) (w : World) (hs : s.length ≤ 2305843009213693952) (hi : i < s.length) : Pure Tryd.prog 29 [str s, .int .i64 (i : Int)] w (.agg #[.int .i64 (scE i (singleP (s.drop i)) : Int), .int .i64 (scP i (singleP (s.drop i)) : Int), .int .i64 (scX (singleP (s.drop i)) : Int)]) := by
  refine enter Tryd.func29 rfl Tryd.ntmps29 rfl (St.start w (look w) (Le.refl _)) ?_
  refine t_seq ?_
  refine t_region ?_
  refine l_e rfl rfl rfl (e_alloc rfl ti63 rfl) ?_
  rintro _ _ _ ⟨b4, rfl, rfl, rfl⟩
  refine l_nil ?_
  refine n_then ?_
  refine t_seq ?_
  refine t_seq ?_
  refine t_region ?_
  refine l_q rfl rfl rfl (q_move rfl rfl) ?_
  refine l_q rfl rfl rfl (q_add64 rfl rfl rfl (by omega)) ?_
  refine l_q rfl rfl rfl (q_assign rfl rfl) ?_
  refine l_nil ?_
  refine n_then ?_
  refine t_block ?_
  refine t_loopE (ι := Nat) (fun zz => i + 1 ≤ zz ∧ zz ≤ s.length ∧ ∀ k, i + 1 ≤ k → k < zz → nth s k 0 ≠ 39) (fun zz => s.length - zz) (fun zz => [(5, .int .i64 (zz : Int))]) [(0, _), (1, _), (4, _)] (fun zz => look w) (fun zz => [row b4 63 [.int .i64 (0 : Int), .int .i64 (0 : Int), .int .i64 (0 : Int)]]) (i + 1) ?_ (sub_cons rfl sub_nil) (sub_cons rfl (sub_cons rfl (sub_cons rfl sub_nil))) (fun _ h => subC_st h) ?_
  · try dsimp only
    exact ⟨Nat.le_refl _, by omega, fun k h1 h2 => by omega⟩
  rintro j ⟨hj1, hj2, hno⟩
  try dsimp only at *
  refine t_seq ?_
  refine t_seq ?_
  refine t_region ?_
  refine l_q rfl rfl rfl (q_move rfl rfl) ?_
  refine l_q rfl rfl rfl (q_move rfl rfl) ?_
  refine l_q rfl rfl rfl (q_len_str rfl Tryd.underlying9 rfl) ?_
  refine l_q rfl rfl rfl (q_lss rfl rfl rfl) ?_
  refine l_nil ?_
  refine n_then ?_
  refine t_cond rfl (fun hc0 => ?_) (fun hc0 => ?_)
  · skip
    try simp at hc0
    have hj : j < s.length := by omega
    refine t_skip ?_
    refine n_then ?_
    refine t_seq ?_
    refine t_block ?_
    refine t_seq ?_
    refine t_region ?_
    refine l_q rfl rfl rfl (q_move rfl rfl) ?_
    refine l_q rfl rfl rfl (q_move rfl rfl) ?_
    refine l_q rfl rfl rfl ((by first | exact q_index_strN rfl Tryd.underlying9 rfl rfl (by omega) | exact q_index_str rfl Tryd.underlying9 rfl rfl (by omega))) ?_
    refine l_q rfl rfl rfl (q_eql_u8c rfl rfl rfl rfl) ?_
    refine l_nil ?_
    refine n_then ?_
    refine t_cond rfl (fun hc1 => ?_) (fun hc1 => ?_)
    · skip
      simp only [decide_eq_true_eq, decide_eq_false_iff_not] at hc1
      have hsp := single_found (by omega) hj hc1 hno
      refine t_seq ?_
      refine t_region ?_
      refine l_q rfl rfl rfl (q_move rfl rfl) ?_
      refine l_q rfl rfl rfl (q_add64 rfl rfl rfl (by omega)) ?_
      refine l_q rfl rfl rfl (q_build (pl := [(_, _), (_, _), (_, _)]) (cs := ([.int .i64 ((j : Int) + 1), .int .i64 0, .int .i64 0]).toArray) rfl Tryd.underlying63 ti63 ⟨rfl, ⟨_, _, ti3⟩, rfl, ⟨_, _, ti3⟩, rfl, ⟨_, _, ti3⟩, trivial⟩ rfl rfl) ?_
      refine l_e0 rfl rfl ((by first | exact e_store_all rfl ti63 rfl rfl rfl (by first | exact chC_ones _ | exact pcC_ones _ | simp [Value.oneCell', str, u8]) rfl | exact e_store_agg rfl ti63 rfl rfl rfl (by first | exact chC_ones _ | exact pcC_ones _ | simp [Value.oneCell', str, u8]) rfl)) ?_
      rintro _ _ _ ⟨rfl, rfl⟩
      refine l_nil ?_
      refine n_then ?_
      refine t_ret ?_
      refine n_ret_block ?_
      refine n_ret_then ?_
      refine n_ret_then ?_
      refine n_ret_block ?_
      refine n_ret_then ?_
      refine n_retGG (.inl rfl) rfl (by exact rg_row rfl Tryd.underlying63 ti63 rfl rfl (rg_nil)) (fun w' hw => ?_)
      -- leaf 0
      rw [hsp]
      exact ⟨congrArg _ (agg3 (by show (j : Int) + 1 = ((i + (j + 1 - i) : Nat) : Int); omega) (rfl) (rfl)), hw.below⟩
    · skip
      simp only [decide_eq_true_eq, decide_eq_false_iff_not] at hc1
      have hc1 : nth s j 0 ≠ 39 := hc1
      refine t_skip ?_
      refine n_block ?_
      refine n_then ?_
      refine t_region ?_
      refine l_q rfl rfl rfl (q_move rfl rfl) ?_
      refine l_q rfl rfl rfl (q_add64 rfl rfl rfl (by omega)) ?_
      refine l_q rfl rfl rfl (q_assign rfl rfl) ?_
      refine l_nil ?_
      refine n_roundE (j + 1) ?_ ?_ (sub_cons rfl sub_nil) (sub_cons rfl (sub_cons rfl (sub_cons rfl sub_nil))) (fun _ h => by try dsimp only; exact subC_st h)
      · try dsimp only
        refine ⟨by omega, by omega, fun k h1 h2 => ?_⟩
        rcases Nat.lt_succ_iff_lt_or_eq.1 h2 with h | rfl
        · exact hno k h1 h
        · exact hc1
      · try dsimp only
        show s.length - (j + 1) < s.length - j
        omega
  · skip
    try simp at hc0
    obtain rfl : j = s.length := by omega
    have hsp := single_none hno
    refine t_exit ?_
    refine n_exit_then ?_
    refine n_exit_then ?_
    refine n_exit_block ?_
    refine n_then ?_
    refine t_seq ?_
    refine t_region ?_
    refine l_q rfl rfl rfl (q_move rfl rfl) ?_
    refine l_q rfl rfl rfl (q_build (pl := [(_, _), (_, _), (_, _)]) (cs := ([.int .i64 0, .int .i64 (i : Int), .int .i64 53]).toArray) rfl Tryd.underlying63 ti63 ⟨rfl, ⟨_, _, ti3⟩, rfl, ⟨_, _, ti3⟩, rfl, ⟨_, _, ti3⟩, trivial⟩ rfl rfl) ?_
    refine l_e0 rfl rfl ((by first | exact e_store_all rfl ti63 rfl rfl rfl (by first | exact chC_ones _ | exact pcC_ones _ | simp [Value.oneCell', str, u8]) rfl | exact e_store_agg rfl ti63 rfl rfl rfl (by first | exact chC_ones _ | exact pcC_ones _ | simp [Value.oneCell', str, u8]) rfl)) ?_
    rintro _ _ _ ⟨rfl, rfl⟩
    refine l_nil ?_
    refine n_then ?_
    refine t_ret ?_
    refine n_retGG (.inl rfl) rfl (by exact rg_row rfl Tryd.underlying63 ti63 rfl rfl (rg_nil)) (fun w' hw => ?_)
    -- leaf 1
    rw [hsp]
    exact ⟨congrArg _ (agg3 (rfl) (rfl) (rfl)), hw.below⟩
set_option maxRecDepth 10000 in
theorem rdouble_pure (m : Nat) (hD : ∀ n, m = n + 1 → RDollarOk n) (s : List UInt8) (i d : Nat) (w : World) (hm : 24 - d = m) (hd : d ≤ 30) (hs : s.length ≤ 2305843009213693952) (hi : i < s.length) : Pure Tryd.prog 28 [str s, .int .i64 (i : Int), .int .i64 (d : Int)] w (.agg #[.int .i64 (scE i ((lv m).1 (s.drop i)) : Int), .int .i64 (scP i ((lv m).1 (s.drop i)) : Int), .int .i64 (scX ((lv m).1 (s.drop i)) : Int)]) := by
  refine enter Tryd.func28 rfl Tryd.ntmps28 rfl (St.start w (look w) (Le.refl _)) ?_
  refine t_seq ?_
  refine t_region ?_
  refine l_e rfl rfl rfl (e_alloc rfl ti63 rfl) ?_
  rintro _ _ _ ⟨b6, rfl, rfl, rfl⟩
  refine l_nil ?_
  refine n_then ?_
  refine t_seq ?_
  refine t_seq ?_
  refine t_region ?_
  refine l_q rfl rfl rfl (q_move rfl rfl) ?_
  refine l_q rfl rfl rfl (q_add64 rfl rfl rfl (by omega)) ?_
  refine l_q rfl rfl rfl (q_gtr rfl rfl rfl) ?_
  refine l_nil ?_
  refine n_then ?_
  refine t_cond rfl (fun hc0 => ?_) (fun hc0 => ?_)
  · skip
    try simp at hc0
    obtain rfl : m = 0 := by omega
    refine t_seq ?_
    refine t_region ?_
    refine l_q rfl rfl rfl (q_move rfl rfl) ?_
    refine l_q rfl rfl rfl (q_build (pl := [(_, _), (_, _), (_, _)]) (cs := ([.int .i64 0, .int .i64 (i : Int), .int .i64 52]).toArray) rfl Tryd.underlying63 ti63 ⟨rfl, ⟨_, _, ti3⟩, rfl, ⟨_, _, ti3⟩, rfl, ⟨_, _, ti3⟩, trivial⟩ rfl rfl) ?_
    refine l_e0 rfl rfl ((by first | exact e_store_all rfl ti63 rfl rfl rfl (by first | exact chC_ones _ | exact pcC_ones _ | simp [Value.oneCell', str, u8]) rfl | exact e_store_agg rfl ti63 rfl rfl rfl (by first | exact chC_ones _ | exact pcC_ones _ | simp [Value.oneCell', str, u8]) rfl)) ?_
    rintro _ _ _ ⟨rfl, rfl⟩
    refine l_nil ?_
    refine n_then ?_
    refine t_ret ?_
    refine n_ret_then ?_
    refine n_retGG (.inl rfl) rfl (by exact rg_row rfl Tryd.underlying63 ti63 rfl rfl (rg_nil)) (fun w' hw => ?_)
    -- leaf 0
    exact ⟨congrArg _ (agg3 (rfl) (rfl) (rfl)), hw.below⟩
  · skip
    try simp at hc0
    obtain ⟨n, rfl⟩ : ∃ n, m = n + 1 := ⟨m - 1, by omega⟩
    have hlv : (lv (n + 1)).1 (s.drop i) = (dblL (lv n).2 (s.drop i).length (s.drop (i + 1))).close 1 53 := by show dblP _ _ = _; unfold dblP; rw [List.drop_drop]
    refine t_skip ?_
    refine n_then ?_
    refine t_seq ?_
    refine t_region ?_
    refine l_q rfl rfl rfl (q_move rfl rfl) ?_
    refine l_q rfl rfl rfl (q_add64 rfl rfl rfl (by omega)) ?_
    refine l_q rfl rfl rfl (q_assign rfl rfl) ?_
    refine l_nil ?_
    refine n_then ?_
    refine t_seq ?_
    refine t_block ?_
    refine t_loopE (ι := Nat × Nat × Nat) (fun zz => KV s.length zz.1 zz.2.2 ∧ i + 1 ≤ zz.1 ∧ zz.1 ≤ s.length ∧ (dblL (lv n).2 (s.drop i).length (s.drop (i + 1))) = (dblL (lv n).2 zz.2.1 (s.drop zz.1)).on (zz.1 - (i + 1)) ∧ (s.drop zz.1).length ≤ zz.2.1) (fun zz => s.length - zz.1) (fun zz => [(7, .int .i64 (zz.2.2 : Int))]) [(0, _), (1, _), (2, _), (6, _), (12, _)] (fun zz => look w) (fun zz => [row b6 63 [.int .i64 (0 : Int), .int .i64 (0 : Int), .int .i64 (0 : Int)]]) (i + 1, (s.drop i).length, i + 1) ?_ (sub_cons rfl sub_nil) (sub_cons rfl (sub_cons rfl (sub_cons rfl (sub_cons rfl (sub_cons rfl sub_nil))))) (fun _ h => subC_st h) ?_
    · try dsimp only
      refine ⟨.inl rfl, Nat.le_refl _, by omega, by rw [Nat.sub_self, LR.on_zero], by rw [List.length_drop, List.length_drop]; omega⟩
    rintro ⟨j, g, kv⟩ ⟨hkv, hj1, hj2, hx, hfl⟩
    try dsimp only at *
    refine t_seq ?_
    refine t_seq ?_
    refine t_region ?_
    refine l_q rfl rfl rfl (q_move rfl rfl) ?_
    refine l_q rfl rfl rfl (q_move rfl rfl) ?_
    refine l_q rfl rfl rfl (q_len_str rfl Tryd.underlying9 rfl) ?_
    refine l_q rfl rfl rfl (q_lss rfl rfl rfl) ?_
    refine l_nil ?_
    refine n_then ?_
    refine t_cond rfl (fun hc1 => ?_) (fun hc1 => ?_)
    · skip
      try simp at hc1
      have hj : j < s.length := by rcases hkv with h | h <;> omega
      obtain rfl : j = kv := by rcases hkv with h | h <;> omega
      have hst := dbl_step hx (drop_ne hj) hfl
      refine t_skip ?_
      refine n_then ?_
      refine t_block ?_
      refine t_seq ?_
      refine t_region ?_
      refine l_q rfl rfl rfl (q_move rfl rfl) ?_
      refine l_q rfl rfl rfl (q_add64 rfl rfl rfl (by omega)) ?_
      refine l_q rfl rfl rfl (q_build (pl := [(_, _), (_, _), (_, _)]) (cs := ([.int .i64 ((j : Int) + 1), .int .i64 0, .int .i64 0]).toArray) rfl Tryd.underlying63 ti63 ⟨rfl, ⟨_, _, ti3⟩, rfl, ⟨_, _, ti3⟩, rfl, ⟨_, _, ti3⟩, trivial⟩ rfl rfl) ?_
      refine l_e rfl rfl rfl (e_alloc rfl ti63 rfl) ?_
      rintro _ _ _ ⟨b8, rfl, rfl, rfl⟩
      refine l_e0 rfl rfl ((by first | exact e_store_all rfl ti63 rfl rfl rfl (by first | exact chC_ones _ | exact pcC_ones _ | simp [Value.oneCell', str, u8]) rfl | exact e_store_agg rfl ti63 rfl rfl rfl (by first | exact chC_ones _ | exact pcC_ones _ | simp [Value.oneCell', str, u8]) rfl)) ?_
      rintro _ _ _ ⟨rfl, rfl⟩
      refine l_heap (H' := row b8 63 [.int .i64 ((j + 1 : Nat) : Int), .int .i64 (0 : Int), .int .i64 (0 : Int)] :: _) ?_ (fun _ h => h)
      refine l_nil ?_
      refine n_then ?_
      refine t_cutE (ι := SR × Nat × Nat × Nat) (fun zz => StR s.length j zz.1 zz.2.1 zz.2.2.1 zz.2.2.2 ∧ zz.1 = insideP (lv n).2 true false (s.drop j) ∧ stB (s.drop j) [34] = false) (fun zz => []) [(7, _), (0, _), (1, _), (2, _), (6, _), (12, _), (20, _), (8, _)] (fun zz => look w) (fun zz => [row b8 63 [.int .i64 (zz.2.1 : Int), .int .i64 (zz.2.2.1 : Int), .int .i64 (zz.2.2.2 : Int)], row b6 63 [.int .i64 (0 : Int), .int .i64 (0 : Int), .int .i64 (0 : Int)]]) (sub_cons rfl (sub_cons rfl (sub_cons rfl (sub_cons rfl (sub_cons rfl (sub_cons rfl (sub_cons rfl (sub_cons rfl sub_nil)))))))) ?_ ?_
      · skip
        refine t_seq ?_
        refine t_region ?_
        refine l_q rfl rfl rfl (q_move rfl rfl) ?_
        refine l_q rfl rfl rfl (q_move rfl rfl) ?_
        refine l_q rfl rfl rfl ((by first | exact q_index_strN rfl Tryd.underlying9 rfl rfl (by omega) | exact q_index_str rfl Tryd.underlying9 rfl rfl (by omega))) ?_
        refine l_nil ?_
        refine n_then ?_
        refine t_block ?_
        refine t_seq ?_
        refine t_region ?_
        refine l_q rfl rfl rfl (q_eql_u8c rfl rfl rfl rfl) ?_
        refine l_q rfl rfl rfl (q_assign rfl rfl) ?_
        refine l_nil ?_
        refine n_then ?_
        refine t_cond rfl (fun hc2 => ?_) (fun hc2 => ?_)
        · skip
          simp only [decide_eq_true_eq, decide_eq_false_iff_not] at hc2
          have h34 : stB (s.drop j) [34] = true := by rw [stB1_at hj]; exact decide_eq_true hc2
          have hok := hst.1 h34
          refine t_seq ?_
          refine t_region ?_
          refine l_q rfl rfl rfl (q_move rfl rfl) ?_
          refine l_q rfl rfl rfl (q_add64 rfl rfl rfl (by omega)) ?_
          refine l_q rfl rfl rfl (q_build (pl := [(_, _), (_, _), (_, _)]) (cs := ([.int .i64 ((j : Int) + 1), .int .i64 0, .int .i64 0]).toArray) rfl Tryd.underlying63 ti63 ⟨rfl, ⟨_, _, ti3⟩, rfl, ⟨_, _, ti3⟩, rfl, ⟨_, _, ti3⟩, trivial⟩ rfl rfl) ?_
          refine l_e0 rfl rfl ((by first | exact e_store_all rfl ti63 rfl rfl rfl (by first | exact chC_ones _ | exact pcC_ones _ | simp [Value.oneCell', str, u8]) rfl | exact e_store_agg rfl ti63 rfl rfl rfl (by first | exact chC_ones _ | exact pcC_ones _ | simp [Value.oneCell', str, u8]) rfl)) ?_
          rintro _ _ _ ⟨rfl, rfl⟩
          refine l_nil ?_
          refine n_then ?_
          refine t_ret ?_
          refine n_ret_block ?_
          refine n_ret_then ?_
          refine n_ret_block ?_
          refine n_ret_then ?_
          refine n_ret_block ?_
          refine n_ret_then ?_
          refine n_retGG (.inl rfl) rfl (by exact rg_row rfl Tryd.underlying63 ti63 rfl rfl (rg_nil)) (fun w' hw => ?_)
          -- leaf 1
          rw [hlv, hok]
          exact ⟨congrArg _ (agg3 (by show (j : Int) + 1 = ((i + (1 + (j - (i + 1) + 1)) : Nat) : Int); omega) (rfl) (rfl)), hw.below⟩
        · skip
          simp only [decide_eq_true_eq, decide_eq_false_iff_not] at hc2
          have hno34 : stB (s.drop j) [34] = false := by rw [stB1_at hj]; exact decide_eq_false hc2
          refine t_seq ?_
          refine t_region ?_
          refine l_q rfl rfl rfl (q_eql_u8c rfl rfl rfl rfl) ?_
          refine l_q rfl rfl rfl (q_assign rfl rfl) ?_
          refine l_nil ?_
          refine n_then ?_
          refine t_cond rfl (fun hc3 => ?_) (fun hc3 => ?_)
          · skip
            simp only [decide_eq_true_eq, decide_eq_false_iff_not] at hc3
            have hc3 : nth s j 0 = 92 := hc3
            refine t_region ?_
            refine l_q rfl rfl rfl (q_move rfl rfl) ?_
            refine l_q rfl rfl rfl (q_add64 rfl rfl rfl (by omega)) ?_
            refine l_q rfl rfl rfl (q_fieldAddr rfl Tryd.underlying63 rfl rfl ti3 rfl rfl) ?_
            refine l_e0 rfl rfl (e_storeS rfl ti3 rfl rfl (by first | exact ⟨rfl, rfl⟩ | assumption) rfl (by first | (simp only [List.set_cons_succ, List.set_cons_zero]; rfl) | rfl)) ?_
            rintro _ _ _ ⟨rfl, rfl⟩
            refine l_heap (H' := row b8 63 [.int .i64 ((j + 2 : Nat) : Int), .int .i64 (0 : Int), .int .i64 (0 : Int)] :: _) ?_ (fun _ h => h)
            refine l_nil ?_
            refine n_block ?_
            refine n_cut ((insideP (lv n).2 true false (s.drop j), j + 2, 0, 0)) ?_ (sub_nil) (sub_cons rfl (sub_cons rfl (sub_cons rfl (sub_cons rfl (sub_cons rfl (sub_cons rfl (sub_cons rfl (sub_cons rfl sub_nil)))))))) (fun _ h => by try dsimp only; exact subC_st h)
            · try dsimp only
              exact ⟨(by rw [inside_at hj, if_pos hc3]; exact StR.esc hj), rfl, hno34⟩
          · skip
            simp only [decide_eq_true_eq, decide_eq_false_iff_not] at hc3
            have hc3 : ¬ nth s j 0 = 92 := hc3
            refine t_seq ?_
            refine t_region ?_
            refine l_q rfl rfl rfl (q_eql_u8c rfl rfl rfl rfl) ?_
            refine l_q rfl rfl rfl (q_assign rfl rfl) ?_
            refine l_nil ?_
            refine n_then ?_
            refine t_cond rfl (fun hc4 => ?_) (fun hc4 => ?_)
            · skip
              simp only [decide_eq_true_eq, decide_eq_false_iff_not] at hc4
              have hc4 : nth s j 0 = 96 := hc4
              refine t_region ?_
              refine l_q rfl rfl rfl (q_move rfl rfl) ?_
              refine l_q rfl rfl rfl (q_build (pl := [(_, _), (_, _), (_, _)]) (cs := ([.int .i64 0, .int .i64 (j : Int), .int .i64 55]).toArray) rfl Tryd.underlying63 ti63 ⟨rfl, ⟨_, _, ti3⟩, rfl, ⟨_, _, ti3⟩, rfl, ⟨_, _, ti3⟩, trivial⟩ rfl rfl) ?_
              refine l_e0 rfl rfl ((by first | exact e_store_all rfl ti63 rfl rfl rfl (by first | exact chC_ones _ | exact pcC_ones _ | simp [Value.oneCell', str, u8]) rfl | exact e_store_agg rfl ti63 rfl rfl rfl (by first | exact chC_ones _ | exact pcC_ones _ | simp [Value.oneCell', str, u8]) rfl)) ?_
              rintro _ _ _ ⟨rfl, rfl⟩
              refine l_nil ?_
              refine n_block ?_
              refine n_cut ((insideP (lv n).2 true false (s.drop j), 0, j, 55)) ?_ (sub_nil) (sub_cons rfl (sub_cons rfl (sub_cons rfl (sub_cons rfl (sub_cons rfl (sub_cons rfl (sub_cons rfl (sub_cons rfl sub_nil)))))))) (fun _ h => by try dsimp only; exact subC_st h)
              · try dsimp only
                exact ⟨(by rw [inside_at hj, if_neg hc3, if_neg (fun h => by cases h.2), if_pos hc4]; exact StR.bad55), rfl, hno34⟩
            · skip
              simp only [decide_eq_true_eq, decide_eq_false_iff_not] at hc4
              have hc4 : ¬ nth s j 0 = 96 := hc4
              refine t_seq ?_
              refine t_region ?_
              refine l_q rfl rfl rfl (q_eql_u8c rfl rfl rfl rfl) ?_
              refine l_q rfl rfl rfl (q_assign rfl rfl) ?_
              refine l_nil ?_
              refine n_then ?_
              refine t_cond rfl (fun hc5 => ?_) (fun hc5 => ?_)
              · skip
                simp only [decide_eq_true_eq, decide_eq_false_iff_not] at hc5
                have hft : begB s j = true → Fit (s.drop j) ((lv n).2 true (s.drop j)) := fun h => (lv_fit n).2 _ _ (by rw [List.length_drop]; have := (begB_at h).1; omega)
                have hfy : Faulty ((lv n).2 true (s.drop j)) := (lv_faulty n).2 _ _
                have hdc := dl_cond (begB s j) hft hfy
                refine t_seq ?_
                refine t_region ?_
                refine l_q rfl rfl rfl (q_move rfl rfl) ?_
                refine l_q rfl rfl rfl (q_move rfl rfl) ?_
                refine l_q rfl rfl rfl (q_move rfl rfl) ?_
                refine l_q rfl rfl rfl (q_add64 rfl rfl rfl (by omega)) ?_
                refine l_q rfl rfl rfl (quiet_call rfl rfl rfl Tryd.func27 (by kernel_rfl) rfl ((fun w hw => hD n rfl s j (d + 1) true w (by omega) (by omega) hs (by omega)))) ?_
                refine l_e rfl rfl rfl (e_alloc rfl ti63 rfl) ?_
                rintro _ _ _ ⟨b9, rfl, rfl, rfl⟩
                refine l_e0 rfl rfl ((by first | exact e_store_all rfl ti63 rfl rfl rfl (by first | exact chC_ones _ | exact pcC_ones _ | simp [Value.oneCell', str, u8]) rfl | exact e_store_agg rfl ti63 rfl rfl rfl (by first | exact chC_ones _ | exact pcC_ones _ | simp [Value.oneCell', str, u8]) rfl)) ?_
                rintro _ _ _ ⟨rfl, rfl⟩
                refine l_nil ?_
                refine n_then ?_
                refine t_seq ?_
                refine t_qreg ?_
                refine s_q rfl rfl rfl (q_fieldAddr rfl Tryd.underlying63 rfl rfl ti3 rfl rfl) ?_
                refine s_q rfl rfl rfl (q_load_row rfl Tryd.underlying3 rfl rfl (by rfl)) ?_
                refine s_q rfl rfl rfl (q_gtr rfl rfl rfl) ?_
                refine s_q rfl rfl rfl (q_move rfl rfl) ?_
                refine s_or2 3 3 51 55 54 _ _ rfl rfl rfl rfl rfl rfl (fun h55 => by
                    try simp at h55
                    refine s_g rfl rfl rfl rfl rfl rfl (q_fieldAddr rfl Tryd.underlying63 rfl rfl ti3 rfl rfl) ?_
                    refine s_g rfl rfl rfl rfl rfl rfl (q_load_row rfl Tryd.underlying3 rfl rfl (by rfl)) ?_
                    refine s_g rfl rfl rfl rfl rfl rfl (q_gtr rfl rfl rfl) ?_
                    exact s_val rfl
                  ) (wanted_n rfl) rfl rfl rfl ?_
                refine s_done ?_
                refine n_then ?_
                refine t_cond rfl (fun hc6 => ?_) (fun hc6 => ?_)
                · skip
                  have hbg : begB s j = true := hdc.symm.trans hc6
                  refine t_region ?_
                  refine l_q rfl rfl rfl (q_load_rowA rfl Tryd.underlying63 ti63 rfl rfl rfl) ?_
                  refine l_e0 rfl rfl ((by first | exact e_store_all rfl ti63 rfl rfl rfl (by first | exact chC_ones _ | exact pcC_ones _ | simp [Value.oneCell', str, u8]) rfl | exact e_store_agg rfl ti63 rfl rfl rfl (by first | exact chC_ones _ | exact pcC_ones _ | simp [Value.oneCell', str, u8]) rfl)) ?_
                  rintro _ _ _ ⟨rfl, rfl⟩
                  refine l_heap (H' := row b8 63 [.int .i64 (dl (begB s j) (scE j ((lv n).2 true (s.drop j))) : Int), .int .i64 (dl (begB s j) (scP j ((lv n).2 true (s.drop j))) : Int), .int .i64 (dl (begB s j) (scX ((lv n).2 true (s.drop j))) : Int)] :: _) ?_ (fun _ h => h)
                  refine l_nil ?_
                  refine n_block ?_
                  refine n_cut ((insideP (lv n).2 true false (s.drop j), dl (begB s j) (scE j ((lv n).2 true (s.drop j))), dl (begB s j) (scP j ((lv n).2 true (s.drop j))), dl (begB s j) (scX ((lv n).2 true (s.drop j))))) ?_ (sub_nil) (sub_cons rfl (sub_cons rfl (sub_cons rfl (sub_cons rfl (sub_cons rfl (sub_cons rfl (sub_cons rfl (sub_cons rfl sub_nil)))))))) (fun _ h => by try dsimp only; exact subC_st h)
                  · try dsimp only
                    exact ⟨(by rw [inside_at hj, if_neg hc3, if_neg (fun h => by cases h.2), if_neg hc4, if_pos hbg, hbg]; exact StR.of (hft hbg) hfy hj), rfl, hno34⟩
                · skip
                  have hbg : begB s j = false := hdc.symm.trans hc6
                  refine t_skip ?_
                  refine n_block ?_
                  refine n_cut ((insideP (lv n).2 true false (s.drop j), j + 1, 0, 0)) ?_ (sub_nil) (sub_cons rfl (sub_cons rfl (sub_cons rfl (sub_cons rfl (sub_cons rfl (sub_cons rfl (sub_cons rfl (sub_cons rfl sub_nil)))))))) (fun _ h => by try dsimp only; exact subC_st h)
                  · try dsimp only
                    exact ⟨(by rw [inside_at hj, if_neg hc3, if_neg (fun h => by cases h.2), if_neg hc4, if_neg (by rw [hbg]; simp)]; exact StR.one hj), rfl, hno34⟩
              · skip
                simp only [decide_eq_true_eq, decide_eq_false_iff_not] at hc5
                have hc5 : nth s j 0 ≠ 36 := hc5
                refine t_skip ?_
                refine n_block ?_
                refine n_cut ((insideP (lv n).2 true false (s.drop j), j + 1, 0, 0)) ?_ (sub_nil) (sub_cons rfl (sub_cons rfl (sub_cons rfl (sub_cons rfl (sub_cons rfl (sub_cons rfl (sub_cons rfl (sub_cons rfl sub_nil)))))))) (fun _ h => by try dsimp only; exact subC_st h)
                · try dsimp only
                  exact ⟨(by rw [inside_at hj, if_neg hc3, if_neg (fun h => by cases h.2), if_neg hc4, if_neg (by rw [begB_not hc5]; simp)]; exact StR.one hj), rfl, hno34⟩
      rintro ⟨r, e1, p1, x1⟩ ⟨hS, hr, hno34⟩
      try dsimp only at *
      have hno := hst.2 hno34
      rw [← hr] at hno
      refine t_seq ?_
      refine t_seq ?_
      refine t_region ?_
      refine l_q rfl rfl rfl (q_fieldAddr rfl Tryd.underlying63 rfl rfl ti3 rfl rfl) ?_
      refine l_q rfl rfl rfl (q_load_row rfl Tryd.underlying3 rfl rfl (by rfl)) ?_
      refine l_q rfl rfl rfl (q_gtr rfl rfl rfl) ?_
      refine l_nil ?_
      refine n_then ?_
      refine t_cond rfl (fun hc7 => ?_) (fun hc7 => ?_)
      · skip
        try simp at hc7
        have hx1 : x1 ≠ 0 := by omega
        obtain ⟨a, h1, hp, he⟩ := hS.f hx1
        have h3 := hno.1 a x1 h1
        refine t_seq ?_
        refine t_region ?_
        refine l_q rfl rfl rfl (q_load_rowA rfl Tryd.underlying63 ti63 rfl rfl rfl) ?_
        refine l_e0 rfl rfl ((by first | exact e_store_all rfl ti63 rfl rfl rfl (by first | exact chC_ones _ | exact pcC_ones _ | simp [Value.oneCell', str, u8]) rfl | exact e_store_agg rfl ti63 rfl rfl rfl (by first | exact chC_ones _ | exact pcC_ones _ | simp [Value.oneCell', str, u8]) rfl)) ?_
        rintro _ _ _ ⟨rfl, rfl⟩
        refine l_nil ?_
        refine n_then ?_
        refine t_ret ?_
        refine n_ret_then ?_
        refine n_ret_block ?_
        refine n_ret_then ?_
        refine n_ret_block ?_
        refine n_ret_then ?_
        refine n_retGG (.inl rfl) rfl (by exact rg_row rfl Tryd.underlying63 ti63 rfl rfl (rg_nil)) (fun w' hw => ?_)
        -- leaf 2
        rw [hlv, h3]
        exact ⟨congrArg _ (agg3 (by rw [he]; rfl) (by rw [hp]; show ((j + a : Nat) : Int) = ((i + (1 + (j - (i + 1) + a)) : Nat) : Int); omega) (rfl)), hw.below⟩
      · skip
        try simp at hc7
        have hx1 : x1 = 0 := by omega
        obtain ⟨k, h1, hk1, hk2, hk3⟩ := hS.t hx1
        have h3 := hno.2 k h1
        rw [List.drop_drop] at h3
        refine t_skip ?_
        refine n_then ?_
        refine t_region ?_
        refine l_q rfl rfl rfl (q_fieldAddr rfl Tryd.underlying63 rfl rfl ti3 rfl rfl) ?_
        refine l_q rfl rfl rfl (q_load_row rfl Tryd.underlying3 rfl rfl (by rfl)) ?_
        refine l_q rfl rfl rfl (q_assign rfl rfl) ?_
        refine l_nil ?_
        refine n_block ?_
        refine n_roundE ((j + k, g - 1, e1)) ?_ ?_ (sub_cons rfl sub_nil) (sub_cons rfl (sub_cons rfl (sub_cons rfl (sub_cons rfl (sub_cons rfl sub_nil))))) (fun _ h => by try dsimp only; exact subC_st h)
        · try dsimp only
          refine ⟨(hk3.imp id (fun h => ⟨h.2.2, h.1, h.2.1⟩)), by omega, by omega, by rw [h3]; congr 1; omega, ?_⟩
          rw [List.length_drop] at hfl ⊢
          omega
        · try dsimp only
          show s.length - (j + k) < s.length - j
          omega
    · skip
      try simp at hc1
      obtain rfl : j = s.length := by rcases hkv with h | h <;> omega
      rw [List.drop_length, dblL_end] at hx
      refine t_exit ?_
      refine n_exit_then ?_
      refine n_exit_then ?_
      refine n_exit_block ?_
      refine n_then ?_
      refine t_seq ?_
      refine t_region ?_
      refine l_q rfl rfl rfl (q_move rfl rfl) ?_
      refine l_q rfl rfl rfl (q_build (pl := [(_, _), (_, _), (_, _)]) (cs := ([.int .i64 0, .int .i64 (i : Int), .int .i64 53]).toArray) rfl Tryd.underlying63 ti63 ⟨rfl, ⟨_, _, ti3⟩, rfl, ⟨_, _, ti3⟩, rfl, ⟨_, _, ti3⟩, trivial⟩ rfl rfl) ?_
      refine l_e0 rfl rfl ((by first | exact e_store_all rfl ti63 rfl rfl rfl (by first | exact chC_ones _ | exact pcC_ones _ | simp [Value.oneCell', str, u8]) rfl | exact e_store_agg rfl ti63 rfl rfl rfl (by first | exact chC_ones _ | exact pcC_ones _ | simp [Value.oneCell', str, u8]) rfl)) ?_
      rintro _ _ _ ⟨rfl, rfl⟩
      refine l_nil ?_
      refine n_then ?_
      refine t_ret ?_
      refine n_retGG (.inl rfl) rfl (by exact rg_row rfl Tryd.underlying63 ti63 rfl rfl (rg_nil)) (fun w' hw => ?_)
      -- leaf 3
      rw [hlv, hx]
      exact ⟨congrArg _ (agg3 (rfl) (rfl) (rfl)), hw.below⟩
set_option maxRecDepth 10000 in
theorem rdollar_pure (m : Nat) (hD : ∀ n, m = n + 1 → RDoubleOk n ∧ RDollarOk n) (s : List UInt8) (i d : Nat) (q : Bool) (w : World) (hm : 24 - d = m) (hd : d ≤ 30) (hs : s.length ≤ 2305843009213693952) (hi : i ≤ s.length) : Pure Tryd.prog 27 [str s, .int .i64 (i : Int), .int .i64 (d : Int), .bool q] w (.agg #[.int .i64 (dl (begB s i) (scE i ((lv m).2 q (s.drop i))) : Int), .int .i64 (dl (begB s i) (scP i ((lv m).2 q (s.drop i))) : Int), .int .i64 (dl (begB s i) (scX ((lv m).2 q (s.drop i))) : Int)]) := by
  refine enter Tryd.func27 rfl Tryd.ntmps27 rfl (St.start w (look w) (Le.refl _)) ?_
  refine t_seq ?_
  refine t_region ?_
  refine l_e rfl rfl rfl (e_alloc rfl ti63 rfl) ?_
  rintro _ _ _ ⟨b8, rfl, rfl, rfl⟩
  refine l_nil ?_
  refine n_then ?_
  refine t_seq ?_
  refine t_seq ?_
  refine t_qreg ?_
  refine s_q rfl rfl rfl (q_move rfl rfl) ?_
  refine s_q rfl rfl rfl (q_move rfl rfl) ?_
  refine s_q rfl rfl rfl (quiet_call rfl rfl rfl Tryd.func47 (by kernel_rfl) rfl ((fun w _ => rat_pure s [36, 40] i w hs hi (by decide)))) ?_
  refine s_q rfl rfl rfl (q_not rfl rfl) ?_
  refine s_q rfl rfl rfl (q_move rfl rfl) ?_
  refine s_and2 4 4 18 23 22 _ _ rfl rfl rfl rfl rfl rfl (fun h23 => by
      try simp at h23
      refine s_g rfl rfl rfl rfl rfl rfl (q_move rfl rfl) ?_
      refine s_g rfl rfl rfl rfl rfl rfl (q_move rfl rfl) ?_
      refine s_g rfl rfl rfl rfl rfl rfl (quiet_call rfl rfl rfl Tryd.func47 (by kernel_rfl) rfl ((fun w _ => rat_pure s [36, 123] i w hs hi (by decide)))) ?_
      refine s_g rfl rfl rfl rfl rfl rfl (q_not rfl rfl) ?_
      exact s_val rfl
    ) (wanted_n rfl) rfl rfl rfl ?_
  refine s_done ?_
  refine n_then ?_
  refine t_cond rfl (fun hc0 => ?_) (fun hc0 => ?_)
  · skip
    have hb : begB s i = false := beg_off hc0
    refine t_seq ?_
    refine t_region ?_
    refine l_q rfl rfl rfl (q_build (pl := [(_, _), (_, _), (_, _)]) (cs := ([.int .i64 0, .int .i64 0, .int .i64 0]).toArray) rfl Tryd.underlying63 ti63 ⟨rfl, ⟨_, _, ti3⟩, rfl, ⟨_, _, ti3⟩, rfl, ⟨_, _, ti3⟩, trivial⟩ rfl rfl) ?_
    refine l_e0 rfl rfl ((by first | exact e_store_all rfl ti63 rfl rfl rfl (by first | exact chC_ones _ | exact pcC_ones _ | simp [Value.oneCell', str, u8]) rfl | exact e_store_agg rfl ti63 rfl rfl rfl (by first | exact chC_ones _ | exact pcC_ones _ | simp [Value.oneCell', str, u8]) rfl)) ?_
    rintro _ _ _ ⟨rfl, rfl⟩
    refine l_nil ?_
    refine n_then ?_
    refine t_ret ?_
    refine n_ret_then ?_
    refine n_retGG (.inl rfl) rfl (by exact rg_row rfl Tryd.underlying63 ti63 rfl rfl (rg_nil)) (fun w' hw => ?_)
    -- leaf 0
    rw [hb]
    exact ⟨congrArg _ (agg3 (rfl) (rfl) (rfl)), hw.below⟩
  · skip
    have hb : begB s i = true := beg_on hc0
    have hba := begB_at hb
    have hbn := beg_other hba.2.2
    refine t_skip ?_
    refine n_then ?_
    refine t_seq ?_
    refine t_seq ?_
    refine t_region ?_
    refine l_q rfl rfl rfl (q_move rfl rfl) ?_
    refine l_q rfl rfl rfl (q_add64 rfl rfl rfl (by omega)) ?_
    refine l_q rfl rfl rfl (q_gtr rfl rfl rfl) ?_
    refine l_nil ?_
    refine n_then ?_
    refine t_cond rfl (fun hc1 => ?_) (fun hc1 => ?_)
    · skip
      try simp at hc1
      obtain rfl : m = 0 := by omega
      refine t_seq ?_
      refine t_region ?_
      refine l_q rfl rfl rfl (q_move rfl rfl) ?_
      refine l_q rfl rfl rfl (q_build (pl := [(_, _), (_, _), (_, _)]) (cs := ([.int .i64 0, .int .i64 (i : Int), .int .i64 52]).toArray) rfl Tryd.underlying63 ti63 ⟨rfl, ⟨_, _, ti3⟩, rfl, ⟨_, _, ti3⟩, rfl, ⟨_, _, ti3⟩, trivial⟩ rfl rfl) ?_
      refine l_e0 rfl rfl ((by first | exact e_store_all rfl ti63 rfl rfl rfl (by first | exact chC_ones _ | exact pcC_ones _ | simp [Value.oneCell', str, u8]) rfl | exact e_store_agg rfl ti63 rfl rfl rfl (by first | exact chC_ones _ | exact pcC_ones _ | simp [Value.oneCell', str, u8]) rfl)) ?_
      rintro _ _ _ ⟨rfl, rfl⟩
      refine l_nil ?_
      refine n_then ?_
      refine t_ret ?_
      refine n_ret_then ?_
      refine n_retGG (.inl rfl) rfl (by exact rg_row rfl Tryd.underlying63 ti63 rfl rfl (rg_nil)) (fun w' hw => ?_)
      -- leaf 1
      rw [hb]
      exact ⟨congrArg _ (agg3 (rfl) (rfl) (rfl)), hw.below⟩
    · skip
      try simp at hc1
      obtain ⟨n, rfl⟩ : ∃ n, m = n + 1 := ⟨m - 1, by omega⟩
      have hlv : (lv (n + 1)).2 q (s.drop i) = (dlrL (lv n).1 (lv n).2 (decide (nth s (i + 1) 0 = 123)) (q && decide (nth s (i + 1) 0 = 123)) (s.drop i).length 0 (s.drop (i + 2))).close 2 53 := by show dlrP _ _ _ _ = _; unfold dlrP braceB; rw [List.drop_drop, nth_drop_one]
      refine t_skip ?_
      refine n_then ?_
      refine t_seq ?_
      refine t_region ?_
      refine l_q rfl rfl rfl (q_assign rfl rfl) ?_
      refine l_nil ?_
      refine n_then ?_
      refine t_seq ?_
      refine t_region ?_
      refine l_q rfl rfl rfl (q_move rfl rfl) ?_
      refine l_q rfl rfl rfl (q_add64 rfl rfl rfl (by omega)) ?_
      refine l_q rfl rfl rfl (q_assign rfl rfl) ?_
      refine l_nil ?_
      refine n_then ?_
      refine t_seq ?_
      refine t_block ?_
      refine t_loopE (ι := Nat × Nat × Nat × Nat) (fun zz => KV s.length zz.1 zz.2.2.2 ∧ i + 2 ≤ zz.1 ∧ zz.1 ≤ s.length ∧ (dlrL (lv n).1 (lv n).2 (decide (nth s (i + 1) 0 = 123)) (q && decide (nth s (i + 1) 0 = 123)) (s.drop i).length 0 (s.drop (i + 2))) = (dlrL (lv n).1 (lv n).2 (decide (nth s (i + 1) 0 = 123)) (q && decide (nth s (i + 1) 0 = 123)) zz.2.2.1 zz.2.1 (s.drop zz.1)).on (zz.1 - (i + 2)) ∧ (s.drop zz.1).length ≤ zz.2.2.1 ∧ zz.2.1 ≤ zz.1) (fun zz => s.length - zz.1) (fun zz => [(10, .int .i64 (zz.2.2.2 : Int)), (9, .int .i64 (zz.2.1 : Int))]) [(0, _), (1, _), (2, _), (3, _), (8, _), (23, _), (27, _)] (fun zz => look w) (fun zz => [row b8 63 [.int .i64 (0 : Int), .int .i64 (0 : Int), .int .i64 (0 : Int)]]) (i + 2, 0, (s.drop i).length, i + 2) ?_ (sub_cons rfl (sub_cons rfl sub_nil)) (sub_cons rfl (sub_cons rfl (sub_cons rfl (sub_cons rfl (sub_cons rfl (sub_cons rfl (sub_cons rfl sub_nil))))))) (fun _ h => subC_st h) ?_
      · try dsimp only
        refine ⟨.inl rfl, Nat.le_refl _, by omega, by rw [Nat.sub_self, LR.on_zero], by rw [List.length_drop, List.length_drop]; omega, Nat.zero_le _⟩
      rintro ⟨j, o, g, kv⟩ ⟨hkv, hj1, hj2, hx, hfl, hoj⟩
      try dsimp only at *
      refine t_seq ?_
      refine t_seq ?_
      refine t_region ?_
      refine l_q rfl rfl rfl (q_move rfl rfl) ?_
      refine l_q rfl rfl rfl (q_move rfl rfl) ?_
      refine l_q rfl rfl rfl (q_len_str rfl Tryd.underlying9 rfl) ?_
      refine l_q rfl rfl rfl (q_lss rfl rfl rfl) ?_
      refine l_nil ?_
      refine n_then ?_
      refine t_cond rfl (fun hc2 => ?_) (fun hc2 => ?_)
      · skip
        try simp at hc2
        have hj : j < s.length := by rcases hkv with h | h <;> omega
        obtain rfl : j = kv := by rcases hkv with h | h <;> omega
        have hstp := dlr_step hx (drop_ne hj) hfl
        rw [nth_drop_head] at hstp
        refine t_skip ?_
        refine n_then ?_
        refine t_block ?_
        refine t_seq ?_
        refine t_region ?_
        refine l_q rfl rfl rfl (q_move rfl rfl) ?_
        refine l_q rfl rfl rfl (q_move rfl rfl) ?_
        refine l_q rfl rfl rfl ((by first | exact q_index_strN rfl Tryd.underlying9 rfl rfl (by omega) | exact q_index_str rfl Tryd.underlying9 rfl rfl (by omega))) ?_
        refine l_q rfl rfl rfl (q_assign rfl rfl) ?_
        refine l_nil ?_
        refine n_then ?_
        refine t_seq ?_
        refine t_region ?_
        refine l_q rfl rfl rfl (q_move rfl rfl) ?_
        refine l_q rfl rfl rfl (q_add64 rfl rfl rfl (by omega)) ?_
        refine l_q rfl rfl rfl (q_build (pl := [(_, _), (_, _), (_, _)]) (cs := ([.int .i64 ((j : Int) + 1), .int .i64 0, .int .i64 0]).toArray) rfl Tryd.underlying63 ti63 ⟨rfl, ⟨_, _, ti3⟩, rfl, ⟨_, _, ti3⟩, rfl, ⟨_, _, ti3⟩, trivial⟩ rfl rfl) ?_
        refine l_e rfl rfl rfl (e_alloc rfl ti63 rfl) ?_
        rintro _ _ _ ⟨b12, rfl, rfl, rfl⟩
        refine l_e0 rfl rfl ((by first | exact e_store_all rfl ti63 rfl rfl rfl (by first | exact chC_ones _ | exact pcC_ones _ | simp [Value.oneCell', str, u8]) rfl | exact e_store_agg rfl ti63 rfl rfl rfl (by first | exact chC_ones _ | exact pcC_ones _ | simp [Value.oneCell', str, u8]) rfl)) ?_
        rintro _ _ _ ⟨rfl, rfl⟩
        refine l_heap (H' := row b12 63 [.int .i64 ((j + 1 : Nat) : Int), .int .i64 (0 : Int), .int .i64 (0 : Int)] :: _) ?_ (fun _ h => h)
        refine l_nil ?_
        refine n_then ?_
        refine t_cutE (ι := SR × Nat × Nat × Nat × Nat) (fun zz => StR s.length j zz.1 zz.2.2.1 zz.2.2.2.1 zz.2.2.2.2 ∧ (∀ a e, zz.1 = .bad a e → (dlrL (lv n).1 (lv n).2 (decide (nth s (i + 1) 0 = 123)) (q && decide (nth s (i + 1) 0 = 123)) (s.drop i).length 0 (s.drop (i + 2))) = .bad (j - (i + 2) + a) e) ∧ (∀ k, zz.1 = .ok k → (dlrL (lv n).1 (lv n).2 (decide (nth s (i + 1) 0 = 123)) (q && decide (nth s (i + 1) 0 = 123)) (s.drop i).length 0 (s.drop (i + 2))) = (dlrL (lv n).1 (lv n).2 (decide (nth s (i + 1) 0 = 123)) (q && decide (nth s (i + 1) 0 = 123)) (g - 1) zz.2.1 ((s.drop j).drop k)).on (j - (i + 2) + k)) ∧ zz.2.1 ≤ j + 1) (fun zz => [(9, .int .i64 (zz.2.1 : Int))]) [(10, _), (0, _), (1, _), (2, _), (3, _), (8, _), (23, _), (27, _), (35, _), (12, _)] (fun zz => look w) (fun zz => [row b12 63 [.int .i64 (zz.2.2.1 : Int), .int .i64 (zz.2.2.2.1 : Int), .int .i64 (zz.2.2.2.2 : Int)], row b8 63 [.int .i64 (0 : Int), .int .i64 (0 : Int), .int .i64 (0 : Int)]]) (sub_cons rfl (sub_cons rfl (sub_cons rfl (sub_cons rfl (sub_cons rfl (sub_cons rfl (sub_cons rfl (sub_cons rfl (sub_cons rfl (sub_cons rfl sub_nil)))))))))) ?_ ?_
        · skip
          refine t_block ?_
          refine t_seq ?_
          refine t_region ?_
          refine l_q rfl rfl rfl (q_move rfl rfl) ?_
          refine l_q rfl rfl rfl (q_eql_u8c rfl rfl rfl rfl) ?_
          refine l_q rfl rfl rfl (q_assign rfl rfl) ?_
          refine l_nil ?_
          refine n_then ?_
          refine t_cond rfl (fun hc3 => ?_) (fun hc3 => ?_)
          · skip
            simp only [decide_eq_true_eq, decide_eq_false_iff_not] at hc3
            have hc3 : nth s j 0 = 92 := hc3
            have h34 : nth s j 0 ≠ 34 := by rw [hc3]; decide
            have hcl : closeB (decide (nth s (i + 1) 0 = 123)) o (nth s j 0) = false := by rw [hc3]; exact close_odd (by decide) (by decide)
            refine t_region ?_
            refine l_q rfl rfl rfl (q_move rfl rfl) ?_
            refine l_q rfl rfl rfl (q_add64 rfl rfl rfl (by omega)) ?_
            refine l_q rfl rfl rfl (q_fieldAddr rfl Tryd.underlying63 rfl rfl ti3 rfl rfl) ?_
            refine l_e0 rfl rfl (e_storeS rfl ti3 rfl rfl (by first | exact ⟨rfl, rfl⟩ | assumption) rfl (by first | (simp only [List.set_cons_succ, List.set_cons_zero]; rfl) | rfl)) ?_
            rintro _ _ _ ⟨rfl, rfl⟩
            refine l_heap (H' := row b12 63 [.int .i64 ((j + 2 : Nat) : Int), .int .i64 (0 : Int), .int .i64 (0 : Int)] :: _) ?_ (fun _ h => h)
            refine l_nil ?_
            refine n_block ?_
            refine n_cut ((insideP (lv n).2 (q && decide (nth s (i + 1) 0 = 123)) (!(q && decide (nth s (i + 1) 0 = 123))) (s.drop j), o, j + 2, 0, 0)) ?_ (sub_cons rfl sub_nil) (sub_cons rfl (sub_cons rfl (sub_cons rfl (sub_cons rfl (sub_cons rfl (sub_cons rfl (sub_cons rfl (sub_cons rfl (sub_cons rfl (sub_cons rfl sub_nil)))))))))) (fun _ h => by try dsimp only; exact subC_st h)
            · try dsimp only
              refine ⟨(by rw [inside_at hj, if_pos hc3]; exact StR.esc hj), (dlr_in hstp h34 hcl (opens_same (by rw [hc3]; decide) (by rw [hc3]; decide))).1, (dlr_in hstp h34 hcl (opens_same (by rw [hc3]; decide) (by rw [hc3]; decide))).2, by omega⟩
          · skip
            simp only [decide_eq_true_eq, decide_eq_false_iff_not] at hc3
            have hc3 : ¬ nth s j 0 = 92 := hc3
            refine t_seq ?_
            refine t_qreg ?_
            refine s_q rfl rfl rfl (q_move rfl rfl) ?_
            refine s_q rfl rfl rfl (q_eql_u8c rfl rfl rfl rfl) ?_
            refine s_q rfl rfl rfl (q_move rfl rfl) ?_
            refine s_and2 9 2 51 61 60 _ _ rfl rfl rfl rfl rfl rfl (fun h61 => by
                try simp at h61
                refine s_g rfl rfl rfl rfl rfl rfl (q_move rfl rfl) ?_
                refine s_g rfl rfl rfl rfl rfl rfl (q_move rfl rfl) ?_
                refine s_and2 5 4 53 59 58 _ _ rfl rfl rfl rfl rfl rfl (fun h59 => by
                    try simp at h59
                    refine s_g rfl rfl rfl rfl rfl rfl (q_move rfl rfl) ?_
                    refine s_g rfl rfl rfl rfl rfl rfl (q_move rfl rfl) ?_
                    refine s_g rfl rfl rfl rfl rfl rfl (q_add64 rfl rfl rfl (by omega)) ?_
                    refine s_g rfl rfl rfl rfl rfl rfl ((by first | exact q_index_strN rfl Tryd.underlying9 rfl rfl (by omega) | exact q_index_str rfl Tryd.underlying9 rfl rfl (by omega))) ?_
                    refine s_g rfl rfl rfl rfl rfl rfl (q_eql_u8c rfl rfl rfl rfl) ?_
                    exact s_val rfl
                  ) (wanted_g rfl rfl rfl rfl) rfl rfl rfl ?_
                refine s_g rfl rfl rfl rfl rfl rfl (q_not rfl rfl) ?_
                exact s_val rfl
              ) (wanted_n rfl) rfl rfl rfl ?_
            refine s_q rfl rfl rfl (q_assign rfl rfl) ?_
            refine s_done ?_
            refine n_then ?_
            refine t_cond rfl (fun hc4 => ?_) (fun hc4 => ?_)
            · skip
              have hq39 : nth s j 0 = 39 ∧ (!(q && decide (nth s (i + 1) 0 = 123))) = true := quote_on hc4
              have h34 : nth s j 0 ≠ 34 := by rw [hq39.1]; decide
              have hcl : closeB (decide (nth s (i + 1) 0 = 123)) o (nth s j 0) = false := by rw [hq39.1]; exact close_odd (by decide) (by decide)
              refine t_region ?_
              refine l_q rfl rfl rfl (q_move rfl rfl) ?_
              refine l_q rfl rfl rfl (q_move rfl rfl) ?_
              refine l_q rfl rfl rfl (quiet_call rfl rfl rfl Tryd.func29 (by kernel_rfl) rfl ((fun w _ => rsingle_pure s j w hs hj))) ?_
              refine l_e0 rfl rfl ((by first | exact e_store_all rfl ti63 rfl rfl rfl (by first | exact chC_ones _ | exact pcC_ones _ | simp [Value.oneCell', str, u8]) rfl | exact e_store_agg rfl ti63 rfl rfl rfl (by first | exact chC_ones _ | exact pcC_ones _ | simp [Value.oneCell', str, u8]) rfl)) ?_
              rintro _ _ _ ⟨rfl, rfl⟩
              refine l_heap (H' := row b12 63 [.int .i64 (scE j (singleP (s.drop j)) : Int), .int .i64 (scP j (singleP (s.drop j)) : Int), .int .i64 (scX (singleP (s.drop j)) : Int)] :: _) ?_ (fun _ h => h)
              refine l_nil ?_
              refine n_block ?_
              refine n_cut ((insideP (lv n).2 (q && decide (nth s (i + 1) 0 = 123)) (!(q && decide (nth s (i + 1) 0 = 123))) (s.drop j), o, scE j (singleP (s.drop j)), scP j (singleP (s.drop j)), scX (singleP (s.drop j)))) ?_ (sub_cons rfl sub_nil) (sub_cons rfl (sub_cons rfl (sub_cons rfl (sub_cons rfl (sub_cons rfl (sub_cons rfl (sub_cons rfl (sub_cons rfl (sub_cons rfl (sub_cons rfl sub_nil)))))))))) (fun _ h => by try dsimp only; exact subC_st h)
              · try dsimp only
                refine ⟨(by rw [inside_at hj, if_neg hc3, if_pos hq39]; exact StR.of (single_fit _ (drop_ne hj)) (single_faulty _) hj), (dlr_in hstp h34 hcl (opens_same (by rw [hq39.1]; decide) (by rw [hq39.1]; decide))).1, (dlr_in hstp h34 hcl (opens_same (by rw [hq39.1]; decide) (by rw [hq39.1]; decide))).2, by omega⟩
            · skip
              have hq39 : ¬ (nth s j 0 = 39 ∧ (!(q && decide (nth s (i + 1) 0 = 123))) = true) := quote_off hc4
              refine t_seq ?_
              refine t_region ?_
              refine l_q rfl rfl rfl (q_move rfl rfl) ?_
              refine l_q rfl rfl rfl (q_eql_u8c rfl rfl rfl rfl) ?_
              refine l_q rfl rfl rfl (q_assign rfl rfl) ?_
              refine l_nil ?_
              refine n_then ?_
              refine t_cond rfl (fun hc5 => ?_) (fun hc5 => ?_)
              · skip
                simp only [decide_eq_true_eq, decide_eq_false_iff_not] at hc5
                have hc5 : nth s j 0 = 34 := hc5
                refine t_region ?_
                refine l_q rfl rfl rfl (q_move rfl rfl) ?_
                refine l_q rfl rfl rfl (q_move rfl rfl) ?_
                refine l_q rfl rfl rfl (q_move rfl rfl) ?_
                refine l_q rfl rfl rfl (q_add64 rfl rfl rfl (by omega)) ?_
                refine l_q rfl rfl rfl (quiet_call rfl rfl rfl Tryd.func28 (by kernel_rfl) rfl ((fun w _ => (hD n rfl).1 s j (d + 1) w (by omega) (by omega) hs hj))) ?_
                refine l_e0 rfl rfl ((by first | exact e_store_all rfl ti63 rfl rfl rfl (by first | exact chC_ones _ | exact pcC_ones _ | simp [Value.oneCell', str, u8]) rfl | exact e_store_agg rfl ti63 rfl rfl rfl (by first | exact chC_ones _ | exact pcC_ones _ | simp [Value.oneCell', str, u8]) rfl)) ?_
                rintro _ _ _ ⟨rfl, rfl⟩
                refine l_heap (H' := row b12 63 [.int .i64 (scE j ((lv n).1 (s.drop j)) : Int), .int .i64 (scP j ((lv n).1 (s.drop j)) : Int), .int .i64 (scX ((lv n).1 (s.drop j)) : Int)] :: _) ?_ (fun _ h => h)
                refine l_nil ?_
                refine n_block ?_
                refine n_cut (((lv n).1 (s.drop j), o, scE j ((lv n).1 (s.drop j)), scP j ((lv n).1 (s.drop j)), scX ((lv n).1 (s.drop j)))) ?_ (sub_cons rfl sub_nil) (sub_cons rfl (sub_cons rfl (sub_cons rfl (sub_cons rfl (sub_cons rfl (sub_cons rfl (sub_cons rfl (sub_cons rfl (sub_cons rfl (sub_cons rfl sub_nil)))))))))) (fun _ h => by try dsimp only; exact subC_st h)
                · try dsimp only
                  refine ⟨(by exact StR.of ((lv_fit n).1 _ (drop_ne hj)) ((lv_faulty n).1 _) hj), (hstp.1 hc5).1, (hstp.1 hc5).2, by omega⟩
              · skip
                simp only [decide_eq_true_eq, decide_eq_false_iff_not] at hc5
                have h34 : nth s j 0 ≠ 34 := hc5
                refine t_seq ?_
                refine t_region ?_
                refine l_q rfl rfl rfl (q_move rfl rfl) ?_
                refine l_q rfl rfl rfl (q_eql_u8c rfl rfl rfl rfl) ?_
                refine l_q rfl rfl rfl (q_assign rfl rfl) ?_
                refine l_nil ?_
                refine n_then ?_
                refine t_cond rfl (fun hc6 => ?_) (fun hc6 => ?_)
                · skip
                  simp only [decide_eq_true_eq, decide_eq_false_iff_not] at hc6
                  have hc6 : nth s j 0 = 96 := hc6
                  have hcl : closeB (decide (nth s (i + 1) 0 = 123)) o (nth s j 0) = false := by rw [hc6]; exact close_odd (by decide) (by decide)
                  refine t_region ?_
                  refine l_q rfl rfl rfl (q_move rfl rfl) ?_
                  refine l_q rfl rfl rfl (q_build (pl := [(_, _), (_, _), (_, _)]) (cs := ([.int .i64 0, .int .i64 (j : Int), .int .i64 55]).toArray) rfl Tryd.underlying63 ti63 ⟨rfl, ⟨_, _, ti3⟩, rfl, ⟨_, _, ti3⟩, rfl, ⟨_, _, ti3⟩, trivial⟩ rfl rfl) ?_
                  refine l_e0 rfl rfl ((by first | exact e_store_all rfl ti63 rfl rfl rfl (by first | exact chC_ones _ | exact pcC_ones _ | simp [Value.oneCell', str, u8]) rfl | exact e_store_agg rfl ti63 rfl rfl rfl (by first | exact chC_ones _ | exact pcC_ones _ | simp [Value.oneCell', str, u8]) rfl)) ?_
                  rintro _ _ _ ⟨rfl, rfl⟩
                  refine l_nil ?_
                  refine n_block ?_
                  refine n_cut ((insideP (lv n).2 (q && decide (nth s (i + 1) 0 = 123)) (!(q && decide (nth s (i + 1) 0 = 123))) (s.drop j), o, 0, j, 55)) ?_ (sub_cons rfl sub_nil) (sub_cons rfl (sub_cons rfl (sub_cons rfl (sub_cons rfl (sub_cons rfl (sub_cons rfl (sub_cons rfl (sub_cons rfl (sub_cons rfl (sub_cons rfl sub_nil)))))))))) (fun _ h => by try dsimp only; exact subC_st h)
                  · try dsimp only
                    refine ⟨(by rw [inside_at hj, if_neg hc3, if_neg hq39, if_pos hc6]; exact StR.bad55), (dlr_in hstp h34 hcl (opens_same (by rw [hc6]; decide) (by rw [hc6]; decide))).1, (dlr_in hstp h34 hcl (opens_same (by rw [hc6]; decide) (by rw [hc6]; decide))).2, by omega⟩
                · skip
                  simp only [decide_eq_true_eq, decide_eq_false_iff_not] at hc6
                  have hc6 : ¬ nth s j 0 = 96 := hc6
                  refine t_seq ?_
                  refine t_region ?_
                  refine l_q rfl rfl rfl (q_move rfl rfl) ?_
                  refine l_q rfl rfl rfl (q_eql_u8c rfl rfl rfl rfl) ?_
                  refine l_q rfl rfl rfl (q_assign rfl rfl) ?_
                  refine l_nil ?_
                  refine n_then ?_
                  refine t_cond rfl (fun hc7 => ?_) (fun hc7 => ?_)
                  · skip
                    simp only [decide_eq_true_eq, decide_eq_false_iff_not] at hc7
                    have hc7 : nth s j 0 = 36 := hc7
                    have hcl : closeB (decide (nth s (i + 1) 0 = 123)) o (nth s j 0) = false := by rw [hc7]; exact close_odd (by decide) (by decide)
                    have hft : begB s j = true → Fit (s.drop j) ((lv n).2 (q && decide (nth s (i + 1) 0 = 123)) (s.drop j)) := fun h => (lv_fit n).2 _ _ (by rw [List.length_drop]; have := (begB_at h).1; omega)
                    have hfy : Faulty ((lv n).2 (q && decide (nth s (i + 1) 0 = 123)) (s.drop j)) := (lv_faulty n).2 _ _
                    have hdc := dl_cond (begB s j) hft hfy
                    refine t_seq ?_
                    refine t_region ?_
                    refine l_quietHead 12 ?_
                    refine s_q rfl rfl rfl (q_move rfl rfl) ?_
                    refine s_q rfl rfl rfl (q_move rfl rfl) ?_
                    refine s_q rfl rfl rfl (q_move rfl rfl) ?_
                    refine s_q rfl rfl rfl (q_add64 rfl rfl rfl (by omega)) ?_
                    refine s_q rfl rfl rfl (q_move rfl rfl) ?_
                    refine s_q rfl rfl rfl (q_move rfl rfl) ?_
                    refine s_and2 5 5 86 92 91 _ _ rfl rfl rfl rfl rfl rfl (fun h92 => by
                        try simp at h92
                        refine s_g rfl rfl rfl rfl rfl rfl (q_move rfl rfl) ?_
                        refine s_g rfl rfl rfl rfl rfl rfl (q_move rfl rfl) ?_
                        refine s_g rfl rfl rfl rfl rfl rfl (q_add64 rfl rfl rfl (by omega)) ?_
                        refine s_g rfl rfl rfl rfl rfl rfl ((by first | exact q_index_strN rfl Tryd.underlying9 rfl rfl (by omega) | exact q_index_str rfl Tryd.underlying9 rfl rfl (by omega))) ?_
                        refine s_g rfl rfl rfl rfl rfl rfl (q_eql_u8c rfl rfl rfl rfl) ?_
                        exact s_val rfl
                      ) (wanted_n rfl) rfl rfl rfl ?_
                    refine s_list ?_
                    refine l_q rfl rfl rfl (quiet_call rfl rfl rfl Tryd.func27 (by kernel_rfl) rfl ((fun w _ => (hD n rfl).2 s j (d + 1) (q && decide (nth s (i + 1) 0 = 123)) w (by omega) (by omega) hs (by omega)))) ?_
                    refine l_e rfl rfl rfl (e_alloc rfl ti63 rfl) ?_
                    rintro _ _ _ ⟨b13, rfl, rfl, rfl⟩
                    refine l_e0 rfl rfl ((by first | exact e_store_all rfl ti63 rfl rfl rfl (by first | exact chC_ones _ | exact pcC_ones _ | simp [Value.oneCell', str, u8]) rfl | exact e_store_agg rfl ti63 rfl rfl rfl (by first | exact chC_ones _ | exact pcC_ones _ | simp [Value.oneCell', str, u8]) rfl)) ?_
                    rintro _ _ _ ⟨rfl, rfl⟩
                    refine l_nil ?_
                    refine n_then ?_
                    refine t_seq ?_
                    refine t_qreg ?_
                    refine s_q rfl rfl rfl (q_fieldAddr rfl Tryd.underlying63 rfl rfl ti3 rfl rfl) ?_
                    refine s_q rfl rfl rfl (q_load_row rfl Tryd.underlying3 rfl rfl (by rfl)) ?_
                    refine s_q rfl rfl rfl (q_gtr rfl rfl rfl) ?_
                    refine s_q rfl rfl rfl (q_move rfl rfl) ?_
                    refine s_or2 3 3 97 101 100 _ _ rfl rfl rfl rfl rfl rfl (fun h101 => by
                        try simp at h101
                        refine s_g rfl rfl rfl rfl rfl rfl (q_fieldAddr rfl Tryd.underlying63 rfl rfl ti3 rfl rfl) ?_
                        refine s_g rfl rfl rfl rfl rfl rfl (q_load_row rfl Tryd.underlying3 rfl rfl (by rfl)) ?_
                        refine s_g rfl rfl rfl rfl rfl rfl (q_gtr rfl rfl rfl) ?_
                        exact s_val rfl
                      ) (wanted_n rfl) rfl rfl rfl ?_
                    refine s_done ?_
                    refine n_then ?_
                    refine t_cond rfl (fun hc8 => ?_) (fun hc8 => ?_)
                    · skip
                      have hbg : begB s j = true := hdc.symm.trans hc8
                      refine t_region ?_
                      refine l_q rfl rfl rfl (q_load_rowA rfl Tryd.underlying63 ti63 rfl rfl rfl) ?_
                      refine l_e0 rfl rfl ((by first | exact e_store_all rfl ti63 rfl rfl rfl (by first | exact chC_ones _ | exact pcC_ones _ | simp [Value.oneCell', str, u8]) rfl | exact e_store_agg rfl ti63 rfl rfl rfl (by first | exact chC_ones _ | exact pcC_ones _ | simp [Value.oneCell', str, u8]) rfl)) ?_
                      rintro _ _ _ ⟨rfl, rfl⟩
                      refine l_heap (H' := row b12 63 [.int .i64 (dl (begB s j) (scE j ((lv n).2 (q && decide (nth s (i + 1) 0 = 123)) (s.drop j))) : Int), .int .i64 (dl (begB s j) (scP j ((lv n).2 (q && decide (nth s (i + 1) 0 = 123)) (s.drop j))) : Int), .int .i64 (dl (begB s j) (scX ((lv n).2 (q && decide (nth s (i + 1) 0 = 123)) (s.drop j))) : Int)] :: _) ?_ (fun _ h => h)
                      refine l_nil ?_
                      refine n_block ?_
                      refine n_cut ((insideP (lv n).2 (q && decide (nth s (i + 1) 0 = 123)) (!(q && decide (nth s (i + 1) 0 = 123))) (s.drop j), o, dl (begB s j) (scE j ((lv n).2 (q && decide (nth s (i + 1) 0 = 123)) (s.drop j))), dl (begB s j) (scP j ((lv n).2 (q && decide (nth s (i + 1) 0 = 123)) (s.drop j))), dl (begB s j) (scX ((lv n).2 (q && decide (nth s (i + 1) 0 = 123)) (s.drop j))))) ?_ (sub_cons rfl sub_nil) (sub_cons rfl (sub_cons rfl (sub_cons rfl (sub_cons rfl (sub_cons rfl (sub_cons rfl (sub_cons rfl (sub_cons rfl (sub_cons rfl (sub_cons rfl sub_nil)))))))))) (fun _ h => by try dsimp only; exact subC_st h)
                      · try dsimp only
                        refine ⟨(by rw [inside_at hj, if_neg hc3, if_neg hq39, if_neg hc6, if_pos hbg, hbg]; exact StR.of (hft hbg) hfy hj), (dlr_in hstp h34 hcl (opens_same (by rw [hc7]; decide) (by rw [hc7]; decide))).1, (dlr_in hstp h34 hcl (opens_same (by rw [hc7]; decide) (by rw [hc7]; decide))).2, by omega⟩
                    · skip
                      have hbg : begB s j = false := hdc.symm.trans hc8
                      refine t_skip ?_
                      refine n_block ?_
                      refine n_cut ((insideP (lv n).2 (q && decide (nth s (i + 1) 0 = 123)) (!(q && decide (nth s (i + 1) 0 = 123))) (s.drop j), o, j + 1, 0, 0)) ?_ (sub_cons rfl sub_nil) (sub_cons rfl (sub_cons rfl (sub_cons rfl (sub_cons rfl (sub_cons rfl (sub_cons rfl (sub_cons rfl (sub_cons rfl (sub_cons rfl (sub_cons rfl sub_nil)))))))))) (fun _ h => by try dsimp only; exact subC_st h)
                      · try dsimp only
                        refine ⟨(by rw [inside_at hj, if_neg hc3, if_neg hq39, if_neg hc6, if_neg (by rw [hbg]; simp)]; exact StR.one hj), (dlr_in hstp h34 hcl (opens_same (by rw [hc7]; decide) (by rw [hc7]; decide))).1, (dlr_in hstp h34 hcl (opens_same (by rw [hc7]; decide) (by rw [hc7]; decide))).2, by omega⟩
                  · skip
                    simp only [decide_eq_true_eq, decide_eq_false_iff_not] at hc7
                    have hc7 : nth s j 0 ≠ 36 := hc7
                    refine t_seq ?_
                    refine t_qreg ?_
                    refine s_q rfl rfl rfl (q_move rfl rfl) ?_
                    refine s_q rfl rfl rfl (q_move rfl rfl) ?_
                    refine s_q rfl rfl rfl (q_add64 rfl rfl rfl (by omega)) ?_
                    refine s_q rfl rfl rfl ((by first | exact q_index_strN rfl Tryd.underlying9 rfl rfl (by omega) | exact q_index_str rfl Tryd.underlying9 rfl rfl (by omega))) ?_
                    refine s_q rfl rfl rfl (q_eql_u8c rfl rfl rfl rfl) ?_
                    refine s_q rfl rfl rfl (q_move rfl rfl) ?_
                    refine s_and2 2 5 109 112 111 _ _ rfl rfl rfl rfl rfl rfl (fun h112 => by
                        try simp at h112
                        refine s_g rfl rfl rfl rfl rfl rfl (q_move rfl rfl) ?_
                        refine s_g rfl rfl rfl rfl rfl rfl (q_eql_u8c rfl rfl rfl rfl) ?_
                        exact s_val rfl
                      ) (wanted_n rfl) rfl rfl rfl ?_
                    refine s_q rfl rfl rfl (q_assign rfl rfl) ?_
                    refine s_done ?_
                    refine n_then ?_
                    refine t_cond rfl (fun hc9 => ?_) (fun hc9 => ?_)
                    · skip
                      have hcl : closeB (decide (nth s (i + 1) 0 = 123)) o (nth s j 0) = true := by rw [closeB, Bool.or_eq_true]; exact .inl hc9
                      have hok := (hstp.2 h34).1 hcl
                      refine t_seq ?_
                      refine t_region ?_
                      refine l_q rfl rfl rfl (q_move rfl rfl) ?_
                      refine l_q rfl rfl rfl (q_add64 rfl rfl rfl (by omega)) ?_
                      refine l_q rfl rfl rfl (q_build (pl := [(_, _), (_, _), (_, _)]) (cs := ([.int .i64 ((j : Int) + 1), .int .i64 0, .int .i64 0]).toArray) rfl Tryd.underlying63 ti63 ⟨rfl, ⟨_, _, ti3⟩, rfl, ⟨_, _, ti3⟩, rfl, ⟨_, _, ti3⟩, trivial⟩ rfl rfl) ?_
                      refine l_e0 rfl rfl ((by first | exact e_store_all rfl ti63 rfl rfl rfl (by first | exact chC_ones _ | exact pcC_ones _ | simp [Value.oneCell', str, u8]) rfl | exact e_store_agg rfl ti63 rfl rfl rfl (by first | exact chC_ones _ | exact pcC_ones _ | simp [Value.oneCell', str, u8]) rfl)) ?_
                      rintro _ _ _ ⟨rfl, rfl⟩
                      refine l_nil ?_
                      refine n_then ?_
                      refine t_ret ?_
                      refine n_ret_block ?_
                      refine n_ret_then ?_
                      refine n_ret_block ?_
                      refine n_ret_then ?_
                      refine n_ret_block ?_
                      refine n_ret_then ?_
                      refine n_retGG (.inl rfl) rfl (by exact rg_row rfl Tryd.underlying63 ti63 rfl rfl (rg_nil)) (fun w' hw => ?_)
                      -- leaf 2
                      rw [hb, hlv, hok]
                      exact ⟨congrArg _ (agg3 (by show (j : Int) + 1 = ((i + (2 + (j - (i + 2) + 1)) : Nat) : Int); omega) (rfl) (rfl)), hw.below⟩
                    · skip
                      refine t_seq ?_
                      refine t_qreg ?_
                      refine s_q rfl rfl rfl (q_move rfl rfl) ?_
                      refine s_q rfl rfl rfl (q_move rfl rfl) ?_
                      refine s_q rfl rfl rfl (q_add64 rfl rfl rfl (by omega)) ?_
                      refine s_q rfl rfl rfl ((by first | exact q_index_strN rfl Tryd.underlying9 rfl rfl (by omega) | exact q_index_str rfl Tryd.underlying9 rfl rfl (by omega))) ?_
                      refine s_q rfl rfl rfl (q_eql_u8c rfl rfl rfl rfl) ?_
                      refine s_q rfl rfl rfl (q_move rfl rfl) ?_
                      refine s_and2 2 5 122 125 124 _ _ rfl rfl rfl rfl rfl rfl (fun h125 => by
                          try simp at h125
                          refine s_g rfl rfl rfl rfl rfl rfl (q_move rfl rfl) ?_
                          refine s_g rfl rfl rfl rfl rfl rfl (q_eql_u8c rfl rfl rfl rfl) ?_
                          exact s_val rfl
                        ) (wanted_n rfl) rfl rfl rfl ?_
                      refine s_q rfl rfl rfl (q_move rfl rfl) ?_
                      refine s_and2 2 9 126 129 128 _ _ rfl rfl rfl rfl rfl rfl (fun h129 => by
                          try simp at h129
                          refine s_g rfl rfl rfl rfl rfl rfl (q_move rfl rfl) ?_
                          refine s_g rfl rfl rfl rfl rfl rfl (q_eql rfl rfl rfl) ?_
                          exact s_val rfl
                        ) (wanted_n rfl) rfl rfl rfl ?_
                      refine s_q rfl rfl rfl (q_assign rfl rfl) ?_
                      refine s_done ?_
                      refine n_then ?_
                      refine t_cond rfl (fun hc10 => ?_) (fun hc10 => ?_)
                      · skip
                        have hcl : closeB (decide (nth s (i + 1) 0 = 123)) o (nth s j 0) = true := close_or2 hbn hc10
                        have hok := (hstp.2 h34).1 hcl
                        refine t_seq ?_
                        refine t_region ?_
                        refine l_q rfl rfl rfl (q_move rfl rfl) ?_
                        refine l_q rfl rfl rfl (q_add64 rfl rfl rfl (by omega)) ?_
                        refine l_q rfl rfl rfl (q_build (pl := [(_, _), (_, _), (_, _)]) (cs := ([.int .i64 ((j : Int) + 1), .int .i64 0, .int .i64 0]).toArray) rfl Tryd.underlying63 ti63 ⟨rfl, ⟨_, _, ti3⟩, rfl, ⟨_, _, ti3⟩, rfl, ⟨_, _, ti3⟩, trivial⟩ rfl rfl) ?_
                        refine l_e0 rfl rfl ((by first | exact e_store_all rfl ti63 rfl rfl rfl (by first | exact chC_ones _ | exact pcC_ones _ | simp [Value.oneCell', str, u8]) rfl | exact e_store_agg rfl ti63 rfl rfl rfl (by first | exact chC_ones _ | exact pcC_ones _ | simp [Value.oneCell', str, u8]) rfl)) ?_
                        rintro _ _ _ ⟨rfl, rfl⟩
                        refine l_nil ?_
                        refine n_then ?_
                        refine t_ret ?_
                        refine n_ret_block ?_
                        refine n_ret_then ?_
                        refine n_ret_block ?_
                        refine n_ret_then ?_
                        refine n_ret_block ?_
                        refine n_ret_then ?_
                        refine n_retGG (.inl rfl) rfl (by exact rg_row rfl Tryd.underlying63 ti63 rfl rfl (rg_nil)) (fun w' hw => ?_)
                        -- leaf 3
                        rw [hb, hlv, hok]
                        exact ⟨congrArg _ (agg3 (by show (j : Int) + 1 = ((i + (2 + (j - (i + 2) + 1)) : Nat) : Int); omega) (rfl) (rfl)), hw.below⟩
                      · skip
                        have hcl : closeB (decide (nth s (i + 1) 0 = 123)) o (nth s j 0) = false := close_not2 hbn hc9 hc10
                        refine t_seq ?_
                        refine t_qreg ?_
                        refine s_q rfl rfl rfl (q_move rfl rfl) ?_
                        refine s_q rfl rfl rfl (q_move rfl rfl) ?_
                        refine s_q rfl rfl rfl (q_add64 rfl rfl rfl (by omega)) ?_
                        refine s_q rfl rfl rfl ((by first | exact q_index_strN rfl Tryd.underlying9 rfl rfl (by omega) | exact q_index_str rfl Tryd.underlying9 rfl rfl (by omega))) ?_
                        refine s_q rfl rfl rfl (q_eql_u8c rfl rfl rfl rfl) ?_
                        refine s_q rfl rfl rfl (q_move rfl rfl) ?_
                        refine s_and2 2 5 139 142 141 _ _ rfl rfl rfl rfl rfl rfl (fun h142 => by
                            try simp at h142
                            refine s_g rfl rfl rfl rfl rfl rfl (q_move rfl rfl) ?_
                            refine s_g rfl rfl rfl rfl rfl rfl (q_eql_u8c rfl rfl rfl rfl) ?_
                            exact s_val rfl
                          ) (wanted_n rfl) rfl rfl rfl ?_
                        refine s_q rfl rfl rfl (q_assign rfl rfl) ?_
                        refine s_done ?_
                        refine n_then ?_
                        refine t_cond rfl (fun hc11 => ?_) (fun hc11 => ?_)
                        · skip
                          refine t_region ?_
                          refine l_q rfl rfl rfl (q_move rfl rfl) ?_
                          refine l_q rfl rfl rfl (q_sub64 rfl rfl rfl (by omega)) ?_
                          refine l_q rfl rfl rfl (q_assign rfl rfl) ?_
                          refine l_nil ?_
                          refine n_block ?_
                          refine n_cut ((insideP (lv n).2 (q && decide (nth s (i + 1) 0 = 123)) (!(q && decide (nth s (i + 1) 0 = 123))) (s.drop j), o - 1, j + 1, 0, 0)) ?_ (sub_cons' rfl (congrArg (Value.int IntKind.i64) (by show (o : Int) - 1 = ((o - 1 : Nat) : Int); have := opens_pos hcl (by rw [← hbn]; exact hc11); omega)) (sub_nil)) (sub_cons rfl (sub_cons rfl (sub_cons rfl (sub_cons rfl (sub_cons rfl (sub_cons rfl (sub_cons rfl (sub_cons rfl (sub_cons rfl (sub_cons rfl sub_nil)))))))))) (fun _ h => by try dsimp only; exact subC_st h)
                          · try dsimp only
                            refine ⟨(by rw [inside_at hj, if_neg hc3, if_neg hq39, if_neg hc6, if_neg (by rw [begB_not hc7]; simp)]; exact StR.one hj), (dlr_in hstp h34 hcl (opens_sub hbn hc11)).1, (dlr_in hstp h34 hcl (opens_sub hbn hc11)).2, by omega⟩
                        · skip
                          refine t_seq ?_
                          refine t_qreg ?_
                          refine s_q rfl rfl rfl (q_move rfl rfl) ?_
                          refine s_q rfl rfl rfl (q_move rfl rfl) ?_
                          refine s_q rfl rfl rfl (q_add64 rfl rfl rfl (by omega)) ?_
                          refine s_q rfl rfl rfl ((by first | exact q_index_strN rfl Tryd.underlying9 rfl rfl (by omega) | exact q_index_str rfl Tryd.underlying9 rfl rfl (by omega))) ?_
                          refine s_q rfl rfl rfl (q_eql_u8c rfl rfl rfl rfl) ?_
                          refine s_q rfl rfl rfl (q_move rfl rfl) ?_
                          refine s_and2 2 5 151 154 153 _ _ rfl rfl rfl rfl rfl rfl (fun h154 => by
                              try simp at h154
                              refine s_g rfl rfl rfl rfl rfl rfl (q_move rfl rfl) ?_
                              refine s_g rfl rfl rfl rfl rfl rfl (q_eql_u8c rfl rfl rfl rfl) ?_
                              exact s_val rfl
                            ) (wanted_n rfl) rfl rfl rfl ?_
                          refine s_q rfl rfl rfl (q_assign rfl rfl) ?_
                          refine s_done ?_
                          refine n_then ?_
                          refine t_cond rfl (fun hc12 => ?_) (fun hc12 => ?_)
                          · skip
                            refine t_region ?_
                            refine l_q rfl rfl rfl (q_move rfl rfl) ?_
                            refine l_q rfl rfl rfl (q_add64 rfl rfl rfl (by omega)) ?_
                            refine l_q rfl rfl rfl (q_assign rfl rfl) ?_
                            refine l_nil ?_
                            refine n_block ?_
                            refine n_cut ((insideP (lv n).2 (q && decide (nth s (i + 1) 0 = 123)) (!(q && decide (nth s (i + 1) 0 = 123))) (s.drop j), o + 1, j + 1, 0, 0)) ?_ (sub_cons rfl sub_nil) (sub_cons rfl (sub_cons rfl (sub_cons rfl (sub_cons rfl (sub_cons rfl (sub_cons rfl (sub_cons rfl (sub_cons rfl (sub_cons rfl (sub_cons rfl sub_nil)))))))))) (fun _ h => by try dsimp only; exact subC_st h)
                            · try dsimp only
                              refine ⟨(by rw [inside_at hj, if_neg hc3, if_neg hq39, if_neg hc6, if_neg (by rw [begB_not hc7]; simp)]; exact StR.one hj), (dlr_in hstp h34 hcl (opens_add hbn hc12)).1, (dlr_in hstp h34 hcl (opens_add hbn hc12)).2, by omega⟩
                          · skip
                            refine t_skip ?_
                            refine n_block ?_
                            refine n_cut ((insideP (lv n).2 (q && decide (nth s (i + 1) 0 = 123)) (!(q && decide (nth s (i + 1) 0 = 123))) (s.drop j), o, j + 1, 0, 0)) ?_ (sub_cons rfl sub_nil) (sub_cons rfl (sub_cons rfl (sub_cons rfl (sub_cons rfl (sub_cons rfl (sub_cons rfl (sub_cons rfl (sub_cons rfl (sub_cons rfl (sub_cons rfl sub_nil)))))))))) (fun _ h => by try dsimp only; exact subC_st h)
                            · try dsimp only
                              refine ⟨(by rw [inside_at hj, if_neg hc3, if_neg hq39, if_neg hc6, if_neg (by rw [begB_not hc7]; simp)]; exact StR.one hj), (dlr_in hstp h34 hcl (opens_none hbn hc11 hc12)).1, (dlr_in hstp h34 hcl (opens_none hbn hc11 hc12)).2, by omega⟩
        rintro ⟨r, o2, e1, p1, x1⟩ ⟨hS, hno1, hno2, ho2⟩
        try dsimp only at *
        refine t_seq ?_
        refine t_seq ?_
        refine t_region ?_
        refine l_q rfl rfl rfl (q_fieldAddr rfl Tryd.underlying63 rfl rfl ti3 rfl rfl) ?_
        refine l_q rfl rfl rfl (q_load_row rfl Tryd.underlying3 rfl rfl (by rfl)) ?_
        refine l_q rfl rfl rfl (q_gtr rfl rfl rfl) ?_
        refine l_nil ?_
        refine n_then ?_
        refine t_cond rfl (fun hc13 => ?_) (fun hc13 => ?_)
        · skip
          try simp at hc13
          have hx1 : x1 ≠ 0 := by omega
          obtain ⟨a, h1, hp, he⟩ := hS.f hx1
          have h3 := hno1 a x1 h1
          refine t_seq ?_
          refine t_region ?_
          refine l_q rfl rfl rfl (q_load_rowA rfl Tryd.underlying63 ti63 rfl rfl rfl) ?_
          refine l_e0 rfl rfl ((by first | exact e_store_all rfl ti63 rfl rfl rfl (by first | exact chC_ones _ | exact pcC_ones _ | simp [Value.oneCell', str, u8]) rfl | exact e_store_agg rfl ti63 rfl rfl rfl (by first | exact chC_ones _ | exact pcC_ones _ | simp [Value.oneCell', str, u8]) rfl)) ?_
          rintro _ _ _ ⟨rfl, rfl⟩
          refine l_nil ?_
          refine n_then ?_
          refine t_ret ?_
          refine n_ret_then ?_
          refine n_ret_block ?_
          refine n_ret_then ?_
          refine n_ret_block ?_
          refine n_ret_then ?_
          refine n_retGG (.inl rfl) rfl (by exact rg_row rfl Tryd.underlying63 ti63 rfl rfl (rg_nil)) (fun w' hw => ?_)
          -- leaf 4
          rw [hb, hlv, h3]
          exact ⟨congrArg _ (agg3 (by rw [he]; rfl) (by rw [hp]; show ((j + a : Nat) : Int) = ((i + (2 + (j - (i + 2) + a)) : Nat) : Int); omega) (rfl)), hw.below⟩
        · skip
          try simp at hc13
          have hx1 : x1 = 0 := by omega
          obtain ⟨k, h1, hk1, hk2, hk3⟩ := hS.t hx1
          have h3 := hno2 k h1
          rw [List.drop_drop] at h3
          refine t_skip ?_
          refine n_then ?_
          refine t_region ?_
          refine l_q rfl rfl rfl (q_fieldAddr rfl Tryd.underlying63 rfl rfl ti3 rfl rfl) ?_
          refine l_q rfl rfl rfl (q_load_row rfl Tryd.underlying3 rfl rfl (by rfl)) ?_
          refine l_q rfl rfl rfl (q_assign rfl rfl) ?_
          refine l_nil ?_
          refine n_block ?_
          refine n_roundE ((j + k, o2, g - 1, e1)) ?_ ?_ (sub_cons rfl (sub_cons rfl sub_nil)) (sub_cons rfl (sub_cons rfl (sub_cons rfl (sub_cons rfl (sub_cons rfl (sub_cons rfl (sub_cons rfl sub_nil))))))) (fun _ h => by try dsimp only; exact subC_st h)
          · try dsimp only
            refine ⟨(hk3.imp id (fun h => ⟨h.2.2, h.1, h.2.1⟩)), by omega, by omega, by rw [h3]; congr 1; omega, ?_, by omega⟩
            rw [List.length_drop] at hfl ⊢
            omega
          · try dsimp only
            show s.length - (j + k) < s.length - j
            omega
      · skip
        try simp at hc2
        obtain rfl : j = s.length := by rcases hkv with h | h <;> omega
        rw [List.drop_length, dlrL_end] at hx
        refine t_exit ?_
        refine n_exit_then ?_
        refine n_exit_then ?_
        refine n_exit_block ?_
        refine n_then ?_
        refine t_seq ?_
        refine t_region ?_
        refine l_q rfl rfl rfl (q_move rfl rfl) ?_
        refine l_q rfl rfl rfl (q_build (pl := [(_, _), (_, _), (_, _)]) (cs := ([.int .i64 0, .int .i64 (i : Int), .int .i64 53]).toArray) rfl Tryd.underlying63 ti63 ⟨rfl, ⟨_, _, ti3⟩, rfl, ⟨_, _, ti3⟩, rfl, ⟨_, _, ti3⟩, trivial⟩ rfl rfl) ?_
        refine l_e0 rfl rfl ((by first | exact e_store_all rfl ti63 rfl rfl rfl (by first | exact chC_ones _ | exact pcC_ones _ | simp [Value.oneCell', str, u8]) rfl | exact e_store_agg rfl ti63 rfl rfl rfl (by first | exact chC_ones _ | exact pcC_ones _ | simp [Value.oneCell', str, u8]) rfl)) ?_
        rintro _ _ _ ⟨rfl, rfl⟩
        refine l_nil ?_
        refine n_then ?_
        refine t_ret ?_
        refine n_retGG (.inl rfl) rfl (by exact rg_row rfl Tryd.underlying63 ti63 rfl rfl (rg_nil)) (fun w' hw => ?_)
        -- leaf 5
        rw [hb, hlv, hx]
        exact ⟨congrArg _ (agg3 (rfl) (rfl) (rfl)), hw.below⟩
end Go.Tri
