/-
  Numbers of base 8: the reference.
-/
import Derived.Test.YtigfpkcaakkgaaaDoorOA13
namespace Go.Tri
open Go.Proofs Go.RowKit
theorem dropO_nil {p : UInt8 → Bool} : ∀ {l : List UInt8}, l.dropWhile p = [] ↔ ∀ x ∈ l, p x = true
  | [] => ⟨fun _ x hx => (by cases hx), fun _ => rfl⟩
  | c :: l => by
    rw [List.dropWhile_cons]
    by_cases h : p c = true
    · rw [if_pos h, dropO_nil]
      exact ⟨fun h2 x hx => (List.mem_cons.1 hx).elim (fun e => e ▸ h) (h2 x), fun h2 x hx => h2 x (List.mem_cons_of_mem _ hx)⟩
    · rw [if_neg h]
      exact ⟨fun h2 => (by cases h2), fun h2 => absurd (h2 c List.mem_cons_self) h⟩
theorem dropO_mem {p : UInt8 → Bool} {c : UInt8} (hc : p c = false) : ∀ {l : List UInt8}, c ∈ l → c ∈ l.dropWhile p
  | d :: l, h => by
    rw [List.dropWhile_cons]
    by_cases hd : p d = true
    · rw [if_pos hd]
      rcases List.mem_cons.1 h with rfl | h2
      · rw [hc] at hd; cases hd
      · exact dropO_mem hc h2
    · rw [if_neg hd]; exact h
theorem trim_iff {s cs : List UInt8} : Lib.trimS s cs = [] ↔ ∀ c ∈ s, cs.contains c = true := by
  unfold Lib.trimS Lib.trimRightS Lib.trimLeftS
  rw [dropO_nil]
  constructor
  · intro h c hc
    cases hb : cs.contains c with
    | true => rfl
    | false =>
      have hm := dropO_mem (p := (cs.contains ·)) hb (List.mem_reverse.2 hc)
      have := h c (List.mem_reverse.2 hm)
      rw [hb] at this; cases this
  · intro h c hc
    have := (List.dropWhile_sublist (l := s.reverse) (cs.contains ·)).mem (List.mem_reverse.1 hc)
    exact h c (List.mem_reverse.1 this)
def octSet : List UInt8 := [48, 49, 50, 51, 52, 53, 54, 55]
theorem octSet_dig : ∀ c : UInt8, octSet.contains c = digB c := u8_all (by unfold digB octSet; decide +kernel)
theorem trim_oct {s : List UInt8} : Lib.trimS s octSet = [] ↔ s.all digB = true := by
  rw [trim_iff, List.all_eq_true]
  exact ⟨fun h c hc => by rw [← octSet_dig]; exact h c hc, fun h c hc => by rw [octSet_dig]; exact h c hc⟩
def oRes (s : List UInt8) : Value := .tuple #[.int .i64 ((fromO s).1 : Int), .bool (fromO s).2]
theorem oRes_ok {s : List UInt8} (h1 : s ≠ []) (h2 : s.length ≤ 6) (h3 : s.all digB = true) : oRes s = .tuple #[.int .i64 (octV s : Int), .bool true] := by unfold oRes fromO; rw [if_pos ⟨h1, h2, h3⟩]
theorem oRes_no {s : List UInt8} (h : ¬ (s ≠ [] ∧ s.length ≤ 6 ∧ s.all digB = true)) : oRes s = .tuple #[.int .i64 0, .bool false] := by unfold oRes fromO; rw [if_neg h]; rfl
theorem all_step {s : List UInt8} {i : Nat} (h : i < s.length) (h1 : (s.take i).all digB = true) (h2 : digB (nth s i 0) = true) : (s.take (i + 1)).all digB = true := by
  rw [take_nth 0 h, List.all_append, h1]
  show (true && (digB (nth s i 0) && true)) = true
  rw [h2]; rfl
theorem octV_six {s : List UInt8} {i : Nat} (h : (s.take i).all digB = true) (hi : i ≤ 6) : octV (s.take i) < 262144 := by
  have h1 := octV_lt _ (s.take i) (Nat.le_refl _) h
  have h2 : (s.take i).length ≤ 6 := by rw [List.length_take]; omega
  have h3 : 8 ^ (s.take i).length ≤ 8 ^ 6 := Nat.pow_le_pow_right (by decide) h2
  omega
theorem digB_iff (c : UInt8) : digB c = true ↔ 48 ≤ c.toNat ∧ c.toNat ≤ 55 := by
  unfold digB
  rw [Bool.and_eq_true, decide_eq_true_eq, decide_eq_true_eq]
set_option maxRecDepth 10000 in
theorem fromoct_pure (s : List UInt8) (w : World) (hs : s.length ≤ 281474976710656) : Pure Tryd.prog 20 [str s] w (oRes s) := by
  refine enter Tryd.func20 rfl Tryd.ntmps20 rfl (St.start w (look w) (Le.refl _)) ?_
  refine t_seq ?_
  refine t_region ?_
  refine l_q rfl rfl rfl (q_assign rfl rfl) ?_
  refine l_q rfl rfl rfl (q_assign rfl rfl) ?_
  refine l_nil ?_
  refine n_then ?_
  refine t_seq ?_
  refine t_seq ?_
  refine t_qreg ?_
  refine s_q rfl rfl rfl (q_move rfl rfl) ?_
  refine s_q rfl rfl rfl (q_eql_str rfl rfl rfl) ?_
  refine s_q rfl rfl rfl (q_move rfl rfl) ?_
  refine s_or2 3 2 8 12 11 _ _ rfl rfl rfl rfl rfl rfl (fun h12 => by
      try simp at h12
      refine s_g rfl rfl rfl rfl rfl rfl (q_move rfl rfl) ?_
      refine s_g rfl rfl rfl rfl rfl rfl (q_len_str rfl Tryd.underlying9 rfl) ?_
      refine s_g rfl rfl rfl rfl rfl rfl (q_gtr rfl rfl rfl) ?_
      exact s_val rfl
    ) (wanted_n rfl) rfl rfl rfl ?_
  refine s_q rfl rfl rfl (q_move rfl rfl) ?_
  refine s_or2 3 7 13 17 16 _ _ rfl rfl rfl rfl rfl rfl (fun h17 => by
      try simp at h17
      refine s_g rfl rfl rfl rfl rfl rfl (q_move rfl rfl) ?_
      refine s_g rfl rfl rfl rfl rfl rfl (quiet_call rfl rfl rfl Tryd.func27 (by kernel_rfl) rfl ((fun w _ => trim_pure s octSet w (by omega) (by decide) (by decide)))) ?_
      refine s_g rfl rfl rfl rfl rfl rfl (q_neq_str rfl rfl rfl) ?_
      exact s_val rfl
    ) (wanted_n rfl) rfl rfl rfl ?_
  refine s_done ?_
  refine n_then ?_
  refine t_cond rfl (fun hc0 => ?_) (fun hc0 => ?_)
  · skip
    refine t_seq ?_
    refine t_region ?_
    refine l_q rfl rfl rfl (q_assign rfl rfl) ?_
    refine l_q rfl rfl rfl (q_assign rfl rfl) ?_
    refine l_nil ?_
    refine n_then ?_
    refine t_ret ?_
    refine n_ret_then ?_
    refine n_ret2 rfl rfl rfl (fun w' hw => ?_)
    -- leaf 0
    refine ⟨?_, hw.below⟩
    rw [oRes_no (fun h => by
      obtain ⟨h1, h2, h3⟩ := h
      have h4 := trim_oct.2 h3
      simp [h1, h4] at hc0
      omega)]
  · skip
    have hc := hc0
    rw [Bool.or_eq_false_iff, Bool.or_eq_false_iff, decide_eq_false_iff_not, decide_eq_false_iff_not, decide_eq_false_iff_not] at hc
    obtain ⟨⟨h1, h2⟩, h3⟩ := hc
    have h2 : s.length ≤ 6 := by omega
    have h3 := trim_oct.1 (Classical.not_not.1 h3)
    refine t_skip ?_
    refine n_then ?_
    refine t_seq ?_
    refine t_region ?_
    refine l_q rfl rfl rfl (q_move rfl rfl) ?_
    refine l_q rfl rfl rfl (quiet_call rfl rfl rfl Tryd.func28 (by kernel_rfl) rfl ((fun w _ => pint8_pure s w h1 h2 h3))) ?_
    refine l_q rfl rfl rfl (q_move rfl rfl) ?_
    refine l_q rfl rfl rfl (q_extract rfl rfl rfl) ?_
    refine l_q rfl rfl rfl (q_extract rfl rfl rfl) ?_
    refine l_q rfl rfl rfl (q_assign rfl rfl) ?_
    refine l_q rfl rfl rfl (q_assign rfl rfl) ?_
    refine l_nil ?_
    refine n_then ?_
    refine t_seq ?_
    refine t_region ?_
    refine l_q rfl rfl rfl (q_move rfl rfl) ?_
    refine l_q rfl rfl rfl (q_assign rfl rfl) ?_
    refine l_q rfl rfl rfl (q_assign rfl rfl) ?_
    refine l_nil ?_
    refine n_then ?_
    refine t_ret ?_
    refine n_ret2 rfl rfl rfl (fun w' hw => ?_)
    -- leaf 1
    refine ⟨?_, hw.below⟩
    rw [oRes_ok h1 h2 h3]; rfl
set_option maxRecDepth 10000 in
theorem roct_walk (n : Nat) (w : World) (hn : n < 9223372036854775808) (ih : ∀ m, m < n → ∀ w : World, Pure Tryd.prog 22 [.int .i64 (m : Int)] w (str (octL m))) : Pure Tryd.prog 22 [.int .i64 (n : Int)] w (str (octL n)) := by
  have hbig := octL_big (n := n / 8) (by omega)
  refine enter Tryd.func22 rfl Tryd.ntmps22 rfl (St.start w (look w) (Le.refl _)) ?_
  refine t_seq ?_
  refine t_region ?_
  refine l_q rfl rfl rfl (q_assign rfl rfl) ?_
  refine l_nil ?_
  refine n_then ?_
  refine t_seq ?_
  refine t_seq ?_
  refine t_region ?_
  refine l_q rfl rfl rfl (q_move rfl rfl) ?_
  refine l_q rfl rfl rfl (q_lss rfl rfl rfl) ?_
  refine l_nil ?_
  refine n_then ?_
  refine t_cond rfl (fun hc0 => ?_) (fun hc0 => ?_)
  · skip
    try simp at hc0
    exfalso
    omega
  · skip
    try simp at hc0
    refine t_skip ?_
    refine n_then ?_
    refine t_seq ?_
    refine t_seq ?_
    refine t_region ?_
    refine l_q rfl rfl rfl (q_move rfl rfl) ?_
    refine l_q rfl rfl rfl (q_lss rfl rfl rfl) ?_
    refine l_nil ?_
    refine n_then ?_
    refine t_cond rfl (fun hc1 => ?_) (fun hc1 => ?_)
    · skip
      try simp at hc1
      refine t_seq ?_
      refine t_region ?_
      refine l_q rfl rfl rfl (q_move rfl rfl) ?_
      refine l_q rfl rfl rfl (q_add64 rfl rfl rfl (by omega)) ?_
      refine l_q rfl rfl rfl (q_conv_u8 (48 + n) rfl Tryd.underlying3 Tryd.underlying5 rfl (by omega)) ?_
      refine l_e rfl rfl rfl (e_buildSlice1 rfl Tryd.underlying30 ti5 rfl rfl rfl (by first | exact One.cells (by assumption) | rfl) rfl) ?_
      rintro _ _ _ ⟨b10, rfl, rfl, rfl⟩
      refine l_q rfl rfl rfl (q_bytes_row (l := [UInt8.ofNat (48 + n)]) rfl Tryd.underlying30 Tryd.underlying9 Tryd.underlying5 rfl (fun j hj => by
        have h0 : j = 0 := by simpa using hj
        subst h0; rfl)) ?_
      refine l_q rfl rfl rfl (q_assign rfl rfl) ?_
      refine l_nil ?_
      refine n_then ?_
      refine t_ret ?_
      refine n_ret_then ?_
      refine n_ret1 rfl rfl (fun w' hw => ?_)
      -- leaf 0
      refine ⟨?_, hw.below⟩
      rw [octL_small (by omega)]
    · skip
      try simp at hc1
      refine t_skip ?_
      refine n_then ?_
      refine t_seq ?_
      refine t_draw [7, 8] [] [] mo (by kernel_rfl) (fun _ _ _ _ _ h => h) ?_
      refine r_q0 0 (by kernel_rfl) rfl (Le.refl _) rfl rfl rfl (fun _ hI => q_move rfl rfl) ?_
      refine r_q0 1 (by kernel_rfl) rfl (Le.refl _) rfl rfl rfl (fun _ hI => q_quo64 rfl rfl rfl (by decide) (by have : (n : Int).tdiv 8 = ((n / 8 : Nat) : Int) := rfl; omega)) ?_
      refine r_q0 2 (by kernel_rfl) rfl (Le.refl _) rfl rfl rfl (fun _ hI => quiet_call rfl rfl rfl Tryd.func22 (by kernel_rfl) rfl ((fun w _ => ih (n / 8) (by omega) w))) ?_
      refine r_q1 3 (by kernel_rfl) rfl (Le.refl _) rfl rfl rfl (q_move rfl rfl) ?_
      refine r_q1 4 (by kernel_rfl) rfl (Le.refl _) rfl rfl rfl (q_rem rfl rfl rfl (by decide)) ?_
      refine r_q1 5 (by kernel_rfl) rfl (Le.refl _) rfl rfl rfl (q_add64 rfl rfl rfl (by have : (n : Int).tmod 8 = ((n % 8 : Nat) : Int) := rfl; omega)) ?_
      refine r_q1 6 (by kernel_rfl) rfl (Le.refl _) rfl rfl rfl (q_conv_u8 (48 + n % 8) rfl Tryd.underlying3 Tryd.underlying5 rfl rfl) ?_
      refine r_e 7 (by kernel_rfl) (by kernel_rfl) rfl (Le.refl _) rfl rfl rfl (e_buildSlice1 rfl Tryd.underlying30 ti5 rfl rfl rfl (by first | exact One.cells (by assumption) | rfl) rfl) ?_
      rintro _ _ _ ⟨b19, rfl, rfl, rfl⟩
      refine ⟨Le.refl _, .inr SubC.sub, ?_⟩
      refine r_e 8 (by kernel_rfl) (by kernel_rfl) rfl (Le.refl _) rfl rfl rfl (e_of_q (q_bytes_row (l := [UInt8.ofNat (48 + n % 8)]) rfl Tryd.underlying30 Tryd.underlying9 Tryd.underlying5 rfl (fun j hj => by
        have h0 : j = 0 := by simpa using hj
        subst h0; rfl))) ?_
      rintro _ _ _ ⟨rfl, rfl, rfl⟩
      refine ⟨Le.refl _, .inr SubC.sub, ?_⟩
      refine r_q0 9 (by kernel_rfl) rfl (Le.refl _) rfl rfl rfl (fun _ hI => q_cat rfl rfl rfl (by first | omega | (simp only [List.length_append, List.length_cons, List.length_nil, List.length_take, List.length_drop]; omega))) ?_
      refine r_q0 10 (by kernel_rfl) rfl (Le.refl _) rfl rfl rfl (fun _ hI => q_assign rfl rfl) ?_
      refine r_end (by kernel_rfl) ?_
      refine n_then ?_
      refine t_ret ?_
      refine n_ret1 rfl rfl (fun w' hw => ?_)
      -- leaf 1
      refine ⟨?_, hw.below⟩
      rw [octL_step (n := n) (by omega)]
theorem roct_pure : ∀ (n : Nat) (w : World), n < 9223372036854775808 → Pure Tryd.prog 22 [.int .i64 (n : Int)] w (str (octL n)) := fun n => by
  induction n using Nat.strongRecOn with
  | ind n ih => exact fun w hn => roct_walk n w hn fun m hm w => ih m hm w (by omega)
set_option maxRecDepth 10000 in
theorem roct_neg (n : Int) (w : World) (hn : n < 0) : Pure Tryd.prog 22 [.int .i64 n] w (str []) := by
  refine enter Tryd.func22 rfl Tryd.ntmps22 rfl (St.start w (look w) (Le.refl _)) ?_
  refine t_seq ?_
  refine t_region ?_
  refine l_q rfl rfl rfl (q_assign rfl rfl) ?_
  refine l_nil ?_
  refine n_then ?_
  refine t_seq ?_
  refine t_seq ?_
  refine t_region ?_
  refine l_q rfl rfl rfl (q_move rfl rfl) ?_
  refine l_q rfl rfl rfl (q_lss rfl rfl rfl) ?_
  refine l_nil ?_
  refine n_then ?_
  refine t_cond rfl (fun hc0 => ?_) (fun hc0 => ?_)
  · skip
    try simp at hc0
    refine t_seq ?_
    refine t_region ?_
    refine l_q rfl rfl rfl (q_assign rfl rfl) ?_
    refine l_nil ?_
    refine n_then ?_
    refine t_ret ?_
    refine n_ret_then ?_
    refine n_ret1 rfl rfl (fun w' hw => ?_)
    -- leaf 0
    exact ⟨rfl, hw.below⟩
  · skip
    try simp at hc0
    exfalso
    omega
theorem roctS_pure (n : Int) (w : World) (hn : n ≤ 9223372036854775807) : Pure Tryd.prog 22 [.int .i64 n] w (str (octS n)) := by
  by_cases hneg : n < 0
  · rw [octS, if_pos hneg]
    exact roct_neg n w hneg
  · obtain ⟨m, rfl⟩ : ∃ m : Nat, n = m := ⟨n.toNat, by omega⟩
    rw [show octS (m : Int) = octL m by rw [octS, if_neg (by omega), Int.toNat_natCast]]
    exact roct_pure m w (by omega)
set_option maxRecDepth 10000 in
theorem rfromoct_pure (s : List UInt8) (w : World) (hs : s.length ≤ 281474976710656) : Pure Tryd.prog 21 [str s] w (oRes s) := by
  refine enter Tryd.func21 rfl Tryd.ntmps21 rfl (St.start w (look w) (Le.refl _)) ?_
  refine t_seq ?_
  refine t_region ?_
  refine l_q rfl rfl rfl (q_assign rfl rfl) ?_
  refine l_q rfl rfl rfl (q_assign rfl rfl) ?_
  refine l_nil ?_
  refine n_then ?_
  refine t_seq ?_
  refine t_region ?_
  refine l_q rfl rfl rfl (q_assign rfl rfl) ?_
  refine l_nil ?_
  refine n_then ?_
  refine t_seq ?_
  refine t_seq ?_
  refine t_region ?_
  refine l_q rfl rfl rfl (q_assign rfl rfl) ?_
  refine l_nil ?_
  refine n_then ?_
  refine t_block ?_
  refine t_loopE (ι := Nat) (fun zz => zz ≤ s.length ∧ zz ≤ 6 ∧ (s.take zz).all digB = true) (fun zz => s.length - zz) (fun zz => [(5, .int .i64 (zz : Int)), (4, .int .i64 (octV (s.take zz) : Int))]) [(0, _)] (fun zz => look w) (fun zz => []) 0 ?_ (sub_cons rfl (sub_cons rfl sub_nil)) (sub_cons rfl sub_nil) (fun _ h => subC_st h) ?_
  · try dsimp only
    exact ⟨Nat.zero_le _, Nat.zero_le _, rfl⟩
  rintro i ⟨hi, hi6, had⟩
  try dsimp only at *
  have hov := octV_six had hi6
  refine t_seq ?_
  refine t_seq ?_
  refine t_region ?_
  refine l_q rfl rfl rfl (q_move rfl rfl) ?_
  refine l_q rfl rfl rfl (q_move rfl rfl) ?_
  refine l_q rfl rfl rfl (q_len_str rfl Tryd.underlying9 rfl) ?_
  refine l_q rfl rfl rfl (q_lss rfl rfl rfl) ?_
  refine l_nil ?_
  refine n_then ?_
  refine t_cond rfl (fun hc0 => ?_) (fun hc0 => ?_)
  · skip
    try simp at hc0
    have hil : i < s.length := by omega
    refine t_skip ?_
    refine n_then ?_
    refine t_seq ?_
    refine t_block ?_
    refine t_seq ?_
    refine t_seq ?_
    refine t_qreg ?_
    refine s_q rfl rfl rfl (q_move rfl rfl) ?_
    refine s_q rfl rfl rfl (q_move rfl rfl) ?_
    refine s_q rfl rfl rfl ((by first | exact q_index_strN rfl Tryd.underlying9 rfl rfl (by omega) | exact q_index_str rfl Tryd.underlying9 rfl rfl (by omega))) ?_
    refine s_q rfl rfl rfl (q_lss rfl rfl rfl) ?_
    refine s_q rfl rfl rfl (q_move rfl rfl) ?_
    refine s_or2 4 4 16 21 20 _ _ rfl rfl rfl rfl rfl rfl (fun h21 => by
        try simp at h21
        refine s_g rfl rfl rfl rfl rfl rfl (q_move rfl rfl) ?_
        refine s_g rfl rfl rfl rfl rfl rfl (q_move rfl rfl) ?_
        refine s_g rfl rfl rfl rfl rfl rfl ((by first | exact q_index_strN rfl Tryd.underlying9 rfl rfl (by omega) | exact q_index_str rfl Tryd.underlying9 rfl rfl (by omega))) ?_
        refine s_g rfl rfl rfl rfl rfl rfl (q_gtr rfl rfl rfl) ?_
        exact s_val rfl
      ) (wanted_n rfl) rfl rfl rfl ?_
    refine s_done ?_
    refine n_then ?_
    refine t_cond rfl (fun hc1 => ?_) (fun hc1 => ?_)
    · skip
      have h1 := hc1
      rw [Bool.or_eq_true, decide_eq_true_eq, decide_eq_true_eq] at h1
      refine t_seq ?_
      refine t_region ?_
      refine l_q rfl rfl rfl (q_assign rfl rfl) ?_
      refine l_q rfl rfl rfl (q_assign rfl rfl) ?_
      refine l_nil ?_
      refine n_then ?_
      refine t_ret ?_
      refine n_ret_then ?_
      refine n_ret_block ?_
      refine n_ret_then ?_
      refine n_ret_then ?_
      refine n_ret_block ?_
      refine n_ret_then ?_
      refine n_ret2 rfl rfl rfl (fun w' hw => ?_)
      -- leaf 0
      refine ⟨?_, hw.below⟩
      rw [oRes_no (fun h => by
        have h2 := digB_at h.2.2 hil
        rcases h1 with h1 | h1 <;> omega)]
    · skip
      have h1 := hc1
      rw [Bool.or_eq_false_iff, decide_eq_false_iff_not, decide_eq_false_iff_not] at h1
      have hg : 48 ≤ (nth s i 0).toNat ∧ (nth s i 0).toNat ≤ 55 := by have h2 := h1.1; have h3 := h1.2; simp at h2 h3; omega
      have hdg := (digB_iff (nth s i 0)).2 hg
      refine t_skip ?_
      refine n_then ?_
      refine t_seq ?_
      refine t_region ?_
      refine l_q rfl rfl rfl (q_move rfl rfl) ?_
      refine l_q rfl rfl rfl (q_mul64 rfl rfl rfl (by omega)) ?_
      refine l_q rfl rfl rfl (q_move rfl rfl) ?_
      refine l_q rfl rfl rfl (q_move rfl rfl) ?_
      refine l_q rfl rfl rfl ((by first | exact q_index_strN rfl Tryd.underlying9 rfl rfl (by omega) | exact q_index_str rfl Tryd.underlying9 rfl rfl (by omega))) ?_
      refine l_q rfl rfl rfl (q_sub_u8 48 rfl rfl rfl (by omega)) ?_
      refine l_q rfl rfl rfl (q_conv_int (r := (((nth s i 0).toNat - 48 : Nat) : Int)) rfl Tryd.underlying5 Tryd.underlying3 rfl (IntWalk.i64_in _ (by omega))) ?_
      refine l_q rfl rfl rfl (q_add64 rfl rfl rfl (by omega)) ?_
      refine l_q rfl rfl rfl (q_assign rfl rfl) ?_
      refine l_nil ?_
      refine n_then ?_
      refine t_seq ?_
      refine t_region ?_
      refine l_q rfl rfl rfl (q_move rfl rfl) ?_
      refine l_q rfl rfl rfl (q_gtr rfl rfl rfl) ?_
      refine l_nil ?_
      refine n_then ?_
      refine t_cond rfl (fun hc2 => ?_) (fun hc2 => ?_)
      · skip
        try simp at hc2
        refine t_seq ?_
        refine t_region ?_
        refine l_q rfl rfl rfl (q_assign rfl rfl) ?_
        refine l_q rfl rfl rfl (q_assign rfl rfl) ?_
        refine l_nil ?_
        refine n_then ?_
        refine t_ret ?_
        refine n_ret_block ?_
        refine n_ret_then ?_
        refine n_ret_then ?_
        refine n_ret_block ?_
        refine n_ret_then ?_
        refine n_ret2 rfl rfl rfl (fun w' hw => ?_)
        -- leaf 1
        refine ⟨?_, hw.below⟩
        rw [oRes_no (fun h => by omega)]
      · skip
        try simp at hc2
        refine t_skip ?_
        refine n_block ?_
        refine n_then ?_
        refine t_region ?_
        refine l_q rfl rfl rfl (q_move rfl rfl) ?_
        refine l_q rfl rfl rfl (q_add64 rfl rfl rfl (by omega)) ?_
        refine l_q rfl rfl rfl (q_assign rfl rfl) ?_
        refine l_nil ?_
        refine n_roundE (i + 1) ?_ ?_ (sub_cons rfl (sub_cons' rfl (congrArg (Value.int IntKind.i64) (by rw [octV_take hil]; omega)) (sub_nil))) (sub_cons rfl sub_nil) (fun _ h => by try dsimp only; exact subC_st h)
        · try dsimp only
          exact ⟨by omega, by omega, all_step hil had hdg⟩
        · try dsimp only
          omega
  · skip
    try simp at hc0
    refine t_exit ?_
    refine n_exit_then ?_
    refine n_exit_then ?_
    refine n_exit_block ?_
    refine n_then ?_
    refine t_seq ?_
    refine t_region ?_
    refine l_q rfl rfl rfl (q_move rfl rfl) ?_
    refine l_q rfl rfl rfl (q_move rfl rfl) ?_
    refine l_q rfl rfl rfl (q_len_str rfl Tryd.underlying9 rfl) ?_
    refine l_q rfl rfl rfl (q_gtr rfl rfl rfl) ?_
    refine l_q rfl rfl rfl (q_assign rfl rfl) ?_
    refine l_q rfl rfl rfl (q_assign rfl rfl) ?_
    refine l_nil ?_
    refine n_then ?_
    refine t_ret ?_
    refine n_ret2 rfl rfl rfl (fun w' hw => ?_)
    -- leaf 2
    refine ⟨?_, hw.below⟩
    have hie : i = s.length := by omega
    subst hie
    rw [List.take_length] at had ⊢
    by_cases h0 : s = []
    · subst h0
      rw [oRes_no (fun h => h.1 rfl)]; rfl
    · rw [oRes_ok h0 hi6 had, decide_eq_true (show (0 : Int) < (s.length : Int) by have := List.length_pos_iff.2 h0; omega)]
end Go.Tri
