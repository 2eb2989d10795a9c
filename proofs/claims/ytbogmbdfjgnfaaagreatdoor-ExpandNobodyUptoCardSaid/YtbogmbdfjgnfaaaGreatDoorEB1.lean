/-
  A parameter.
-/
import Derived.Test.YtbogmbdfjgnfaaaGreatDoorEA9
namespace Go.Tri
open Go.Proofs Go.RowKit
theorem ascii_of_all {l : List UInt8} (h : l.all (fun b => decide (b.toNat < 128)) = true) : ∀ (j : Nat) b, l[j]? = some b → b.toNat < 128 := fun j b hb => by
  have := List.all_eq_true.1 h b (List.mem_of_getElem? hb)
  simpa using this
theorem trimL_pure (s cs : List UInt8) (w : World) (hc : cs.length ≤ 1000) (ha : cs.all (fun b => decide (b.toNat < 128)) = true) : Pure Tryz.prog 149 [str s, str cs] w (str (Lib.trimLeftS s cs)) := by
  have h2 := size_str cs
  exact (Any.strings_TrimLeft_laid Tryz.lays161 (by kernel_rfl) ⟨s.toArray⟩ ⟨cs.toArray⟩ w (by omega) (ascii_of_all (l := cs) ha)).mono fun e w' ⟨h3, h4⟩ => ⟨h3, h4⟩
theorem nameN_end {f n : Nat} {s : List UInt8} (h : ¬ (n < s.length ∧ nameB (s.take (n + 1)) = true)) : nameN f n s = n := by
  cases f with
  | zero => rfl
  | succ f => rw [nameN, if_neg h]
theorem nameN_step {f n : Nat} {s : List UInt8} (hf : s.length - n ≤ f) (h1 : n < s.length) (h2 : nameB (s.take (n + 1)) = true) : nameN f n s = nameN (f - 1) (n + 1) s := by
  obtain ⟨g, rfl⟩ : ∃ g, f = g + 1 := ⟨f - 1, by omega⟩
  rw [nameN, if_pos ⟨h1, h2⟩]; rfl
theorem trimL_le (s cs : List UInt8) : (Lib.trimLeftS s cs).length ≤ s.length := (List.dropWhile_sublist _).length_le
theorem param_mark {s : List UInt8} {n d : Nat} (hn : n = nameN s.length 0 s) (hd : d = if n = 0 then s.length - (Lib.trimLeftS s digitsS).length else n) (h : (decide ((d : Int) = 0) && decide (s ≠ []) && decide (0 ≤ Lib.indexByte markS (nth s 0 0))) = true) : paramN s = 1 := by
  rw [Bool.and_eq_true, Bool.and_eq_true, decide_eq_true_eq, decide_eq_true_eq, indexByte_has] at h
  unfold paramN
  simp only [← hn]
  have h0 : n = 0 := by
    rcases Nat.eq_zero_or_pos n with h1 | h1
    · exact h1
    · rw [if_neg (by omega)] at hd; omega
  rw [if_pos h0] at hd
  rw [if_neg (by omega), if_neg (by omega), if_pos ⟨h.1.2, h.2⟩]
theorem param_not {s : List UInt8} {n d : Nat} (hn : n = nameN s.length 0 s) (hd : d = if n = 0 then s.length - (Lib.trimLeftS s digitsS).length else n) (h : (decide ((d : Int) = 0) && decide (s ≠ []) && decide (0 ≤ Lib.indexByte markS (nth s 0 0))) = false) : paramN s = d := by
  rw [indexByte_has] at h
  unfold paramN
  simp only [← hn]
  by_cases h0 : n = 0
  · rw [if_pos h0] at hd
    rw [if_neg (by omega), ← hd]
    by_cases h1 : d = 0
    · rw [if_neg (by omega), if_neg, h1]
      rintro ⟨h2, h3⟩
      rw [decide_eq_true (show (d : Int) = 0 by omega), decide_eq_true h2, h3] at h
      cases h
    · rw [if_pos h1]
  · rw [if_neg h0] at hd
    rw [if_pos h0, hd]
set_option maxRecDepth 10000 in
theorem param_pure (s : List UInt8) (w : World) (hs : s.length ≤ 1000000000) : Pure Tryz.prog 133 [str s] w (.int .i64 (paramN s : Int)) := by
  refine enter Tryz.func133 rfl Tryz.ntmps133 rfl (St.start w (look w) (Le.refl _)) ?_
  refine t_seq ?_
  refine t_region ?_
  refine l_q rfl rfl rfl (q_assign rfl rfl) ?_
  refine l_nil ?_
  refine n_then ?_
  refine t_seq ?_
  refine t_region ?_
  refine l_q rfl rfl rfl (q_assign rfl rfl) ?_
  refine l_nil ?_
  refine n_then ?_
  refine t_seq ?_
  refine t_block ?_
  refine t_loopE (ι := Nat × Nat) (fun zz => zz.1 ≤ s.length ∧ nameN s.length 0 s = nameN zz.2 zz.1 s ∧ s.length - zz.1 ≤ zz.2) (fun zz => s.length - zz.1) (fun zz => [(3, .int .i64 (zz.1 : Int))]) [(0, _), (2, _)] (fun zz => look w) (fun zz => []) (0, s.length) ?_ (sub_cons rfl sub_nil) (sub_cons rfl (sub_cons rfl sub_nil)) (fun _ h => subC_st h) ?_
  · try dsimp only
    exact ⟨Nat.zero_le _, rfl, Nat.le_refl _⟩
  rintro ⟨n, g⟩ ⟨hn, hx, hg⟩
  try dsimp only at *
  refine t_seq ?_
  refine t_seq ?_
  refine t_qreg ?_
  refine s_q rfl rfl rfl (q_move rfl rfl) ?_
  refine s_q rfl rfl rfl (q_move rfl rfl) ?_
  refine s_q rfl rfl rfl (q_len_str rfl Tryz.underlying9 rfl) ?_
  refine s_q rfl rfl rfl (q_lss rfl rfl rfl) ?_
  refine s_q rfl rfl rfl (q_move rfl rfl) ?_
  refine s_and2 5 4 8 14 13 _ _ rfl rfl rfl rfl rfl rfl (fun h14 => by
      try simp at h14
      refine s_g rfl rfl rfl rfl rfl rfl (q_move rfl rfl) ?_
      refine s_g rfl rfl rfl rfl rfl rfl (q_move rfl rfl) ?_
      refine s_g rfl rfl rfl rfl rfl rfl (q_add64 rfl rfl rfl (by omega)) ?_
      refine s_g rfl rfl rfl rfl rfl rfl (q_slice_str_to rfl Tryz.underlying9 rfl rfl (by omega)) ?_
      refine s_g rfl rfl rfl rfl rfl rfl (quiet_call rfl rfl rfl Tryz.func140 (by kernel_rfl) rfl ((fun w _ => name_pure (s.take (n + 1)) w (by rw [List.length_take]; omega)))) ?_
      exact s_val rfl
    ) (wanted_n rfl) rfl rfl rfl ?_
  refine s_done ?_
  refine n_then ?_
  refine t_cond rfl (fun hc0 => ?_) (fun hc0 => ?_)
  · skip
    have h0 : n < s.length ∧ nameB (s.take (n + 1)) = true := by
      have h := hc0
      rw [Bool.and_eq_true, decide_eq_true_eq] at h
      exact ⟨by omega, h.2⟩
    refine t_skip ?_
    refine n_then ?_
    refine t_block ?_
    refine t_region ?_
    refine l_q rfl rfl rfl (q_move rfl rfl) ?_
    refine l_q rfl rfl rfl (q_add64 rfl rfl rfl (by omega)) ?_
    refine l_q rfl rfl rfl (q_assign rfl rfl) ?_
    refine l_nil ?_
    refine n_block ?_
    refine n_roundE ((n + 1, g - 1)) ?_ ?_ (sub_cons rfl sub_nil) (sub_cons rfl (sub_cons rfl sub_nil)) (fun _ h => by try dsimp only; exact subC_st h)
    · try dsimp only
      exact ⟨by omega, hx.trans (nameN_step hg h0.1 h0.2), by omega⟩
    · try dsimp only
      show s.length - (n + 1) < s.length - n
      omega
  · skip
    have h0 : ¬ (n < s.length ∧ nameB (s.take (n + 1)) = true) := fun ⟨h1, h2⟩ => by
      have h : (decide ((n : Int) < (s.length : Int)) && nameB (s.take (n + 1))) = false := hc0
      rw [h2, decide_eq_true (by omega)] at h
      cases h
    have hnm : n = nameN s.length 0 s := by rw [hx, nameN_end h0]
    refine t_exit ?_
    refine n_exit_then ?_
    refine n_exit_then ?_
    refine n_exit_block ?_
    refine n_then ?_
    refine t_cutE (ι := Nat) (fun zz => zz = if n = 0 then s.length - (Lib.trimLeftS s digitsS).length else n) (fun zz => [(3, .int .i64 (zz : Int))]) [(0, _), (2, _), (14, _)] (fun zz => look w) (fun zz => []) (sub_cons rfl (sub_cons rfl (sub_cons rfl sub_nil))) ?_ ?_
    · skip
      refine t_seq ?_
      refine t_region ?_
      refine l_q rfl rfl rfl (q_move rfl rfl) ?_
      refine l_q rfl rfl rfl (q_eql rfl rfl rfl) ?_
      refine l_nil ?_
      refine n_then ?_
      refine t_cond rfl (fun hc1 => ?_) (fun hc1 => ?_)
      · skip
        try simp at hc1
        have hn0 : n = 0 := by omega
        have htl := trimL_le s digitsS
        refine t_region ?_
        refine l_q rfl rfl rfl (q_move rfl rfl) ?_
        refine l_q rfl rfl rfl (q_len_str rfl Tryz.underlying9 rfl) ?_
        refine l_q rfl rfl rfl (q_move rfl rfl) ?_
        refine l_q rfl rfl rfl (quiet_call rfl rfl rfl Tryz.func149 (by kernel_rfl) rfl ((fun w _ => trimL_pure s digitsS w (by decide) (by decide)))) ?_
        refine l_q rfl rfl rfl (q_len_str rfl Tryz.underlying9 rfl) ?_
        refine l_q rfl rfl rfl (q_sub64 rfl rfl rfl (by omega)) ?_
        refine l_q rfl rfl rfl (q_assign rfl rfl) ?_
        refine l_nil ?_
        refine n_cut (s.length - (Lib.trimLeftS s digitsS).length) ?_ (sub_cons' rfl (congrArg (Value.int IntKind.i64) (by omega)) (sub_nil)) (sub_cons rfl (sub_cons rfl (sub_cons rfl sub_nil))) (fun _ h => by try dsimp only; exact subC_st h)
        · try dsimp only
          rw [if_pos hn0]
      · skip
        try simp at hc1
        have hn0 : ¬ n = 0 := by omega
        refine t_skip ?_
        refine n_cut (n) ?_ (sub_cons rfl sub_nil) (sub_cons rfl (sub_cons rfl (sub_cons rfl sub_nil))) (fun _ h => by try dsimp only; exact subC_st h)
        · try dsimp only
          rw [if_neg hn0]
    rintro d hd
    try dsimp only at *
    refine t_seq ?_
    refine t_seq ?_
    refine t_qreg ?_
    refine s_q rfl rfl rfl (q_move rfl rfl) ?_
    refine s_q rfl rfl rfl (q_eql rfl rfl rfl) ?_
    refine s_q rfl rfl rfl (q_move rfl rfl) ?_
    refine s_and2 2 2 27 30 29 _ _ rfl rfl rfl rfl rfl rfl (fun h30 => by
        try simp at h30
        refine s_g rfl rfl rfl rfl rfl rfl (q_move rfl rfl) ?_
        refine s_g rfl rfl rfl rfl rfl rfl (q_neq_str rfl rfl rfl) ?_
        exact s_val rfl
      ) (wanted_n rfl) rfl rfl rfl ?_
    refine s_q rfl rfl rfl (q_move rfl rfl) ?_
    refine s_and2 4 6 31 36 35 _ _ rfl rfl rfl rfl rfl rfl (fun h36 => by
        try simp at h36
        have hs0 : 0 < s.length := List.length_pos_iff.2 h36.2
        refine s_g rfl rfl rfl rfl rfl rfl (q_move rfl rfl) ?_
        refine s_g rfl rfl rfl rfl rfl rfl ((by first | exact q_index_strN rfl Tryz.underlying9 rfl rfl (by omega) | exact q_index_str rfl Tryz.underlying9 rfl rfl (by omega))) ?_
        refine s_g rfl rfl rfl rfl rfl rfl (quiet_call rfl rfl rfl Tryz.func56 (by kernel_rfl) rfl ((fun w _ => indexByte_pure markS (nth s 0 0) w))) ?_
        refine s_g rfl rfl rfl rfl rfl rfl (q_geq rfl rfl rfl) ?_
        exact s_val rfl
      ) (wanted_n rfl) rfl rfl rfl ?_
    refine s_done ?_
    refine n_then ?_
    refine t_cond rfl (fun hc2 => ?_) (fun hc2 => ?_)
    · skip
      have hp := param_mark hnm hd hc2
      refine t_region ?_
      refine l_q rfl rfl rfl (q_assign rfl rfl) ?_
      refine l_nil ?_
      refine n_then ?_
      refine t_seq ?_
      refine t_region ?_
      refine l_q rfl rfl rfl (q_move rfl rfl) ?_
      refine l_q rfl rfl rfl (q_assign rfl rfl) ?_
      refine l_nil ?_
      refine n_then ?_
      refine t_ret ?_
      refine n_ret1 rfl rfl (fun w' hw => ?_)
      -- leaf 0
      refine ⟨?_, hw.below⟩
      rw [hp]; rfl
    · skip
      have hp := param_not hnm hd hc2
      refine t_skip ?_
      refine n_then ?_
      refine t_seq ?_
      refine t_region ?_
      refine l_q rfl rfl rfl (q_move rfl rfl) ?_
      refine l_q rfl rfl rfl (q_assign rfl rfl) ?_
      refine l_nil ?_
      refine n_then ?_
      refine t_ret ?_
      refine n_ret1 rfl rfl (fun w' hw => ?_)
      -- leaf 1
      refine ⟨?_, hw.below⟩
      rw [hp]
end Go.Tri
