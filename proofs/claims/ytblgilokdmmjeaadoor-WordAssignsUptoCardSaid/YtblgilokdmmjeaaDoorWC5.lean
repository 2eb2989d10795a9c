/-
  The statement: WordAssigns.
-/
import Derived.Test.YtblgilokdmmjeaaDoorWC4
namespace Go.Tri
open Go.Proofs Go.RowKit
/-- a name, and what is behind its = -/
def assignP (s : List UInt8) : List UInt8 × List UInt8 × Bool :=
  if 0 ≤ Lib.indexByte s 61 ∧ nameB (s.take (Lib.indexByte s 61).toNat) = true then (s.take (Lib.indexByte s 61).toNat, s.drop ((Lib.indexByte s 61).toNat + 1), true) else ([], [], false)
def cutA (s : List UInt8) (c : UInt8) : List UInt8 := if 0 ≤ Lib.indexByte s c then s.take (Lib.indexByte s c).toNat else s
def cutB (s : List UInt8) (c : UInt8) : List UInt8 := if 0 ≤ Lib.indexByte s c then s.drop ((Lib.indexByte s c).toNat + 1) else []
theorem cutc_pure (l : List UInt8) (c : UInt8) (w : World) (hl : l.length ≤ 1000000000) (hG : EnvI (look w)) : Pure Tryd.prog 20 [str l, str [c]] w (.tuple #[str (cutA l c), str (cutB l c), .bool (hasB l c)]) := by
  obtain ⟨m, hm⟩ := hG.cell
  have hsz := size_str l
  refine (Tryd.strings_Cut ⟨l.toArray⟩ ⟨#[c]⟩ m w (by omega) hm).mono fun e w' ⟨h1, n, h2⟩ => ?_
  subst h2
  refine ⟨?_, below_drewN (Below.refl _ w) n⟩
  rw [h1]
  have e0 : (⟨l.toArray⟩ : ByteArray).data.toList = l := by simp
  have e9 : (⟨#[c]⟩ : ByteArray).data.toList = [c] := rfl
  rw [e0, e9]
  have e1 : (Lib.cut l [c]).1 = cutA l c := by
    unfold Lib.cut cutA
    rw [index_one]
    split <;> rfl
  have e3 : (Lib.cut l [c]).2.1 = cutB l c := by
    unfold Lib.cut cutB
    rw [index_one]
    split <;> rfl
  have e2 : (Lib.cut l [c]).2.2 = hasB l c := by
    unfold Lib.cut
    rw [index_one, ← indexByte_has]
    split
    · rename_i h; rw [decide_eq_true h]
    · rename_i h; rw [decide_eq_false h]
  rw [e1, e2, e3]; rfl
theorem assign_no {s : List UInt8} (h : (!hasB s 61 || !nameB (cutA s 61)) = true) : assignP s = ([], [], false) := by
  unfold assignP
  rw [if_neg]
  rintro ⟨h1, h2⟩
  rw [← indexByte_has, decide_eq_true h1, cutA, if_pos h1, h2] at h
  cases h
theorem assign_yes {s : List UInt8} (h : (!hasB s 61 || !nameB (cutA s 61)) = false) : assignP s = (cutA s 61, cutB s 61, true) := by
  rw [← indexByte_has, Bool.or_eq_false_iff] at h
  have h1 : 0 ≤ Lib.indexByte s 61 := of_decide_eq_true (by simpa using h.1)
  unfold assignP cutB
  have h2 := h.2
  unfold cutA at h2 ⊢
  rw [if_pos h1] at h2 ⊢
  rw [if_pos h1, if_pos ⟨h1, by simpa using h2⟩]
theorem assign_at {s : List UInt8} {i : Nat} (hi : i < s.length) (hc : nth s i 0 = 61) (hno : ∀ k, k < i → nth s k 0 ≠ 61) : Lib.indexByte s 61 = (i : Int) := by
  have hge := Lib.indexByte_ge s 61
  by_cases h : Lib.indexByte s 61 = -1
  · exact absurd (hc ▸ nth_mem hi) (indexByte_none h)
  · obtain ⟨m, hm⟩ : ∃ m : Nat, Lib.indexByte s 61 = m := ⟨(Lib.indexByte s 61).toNat, by omega⟩
    obtain ⟨h1, h2, h3⟩ := indexByte_some hm
    rcases Nat.lt_trichotomy m i with h4 | h4 | h4
    · exact absurd h2 (hno m h4)
    · rw [hm, h4]
    · exfalso
      apply h3
      have h5 : i < (s.take m).length := by rw [List.length_take]; omega
      have h6 : nth (s.take m) i 0 = 61 := by
        rw [← hc]; unfold nth
        rw [List.getD_eq_getElem?_getD, List.getD_eq_getElem?_getD, List.getElem?_take, if_pos h4]
      rw [← h6]; exact nth_mem h5
theorem assign_none {s : List UInt8} (hno : ∀ k, k < s.length → nth s k 0 ≠ 61) : assignP s = ([], [], false) := by
  unfold assignP
  rw [if_neg]
  rintro ⟨h1, _⟩
  obtain ⟨m, hm⟩ : ∃ m : Nat, Lib.indexByte s 61 = m := ⟨(Lib.indexByte s 61).toNat, by omega⟩
  obtain ⟨h2, h3, _⟩ := indexByte_some hm
  exact hno m h2 h3
theorem assign_back {s : List UInt8} (h : (assignP s).2.2 = true) : (assignP s).1 ++ [61] ++ (assignP s).2.1 = s := by
  unfold assignP at h ⊢
  split at h
  · rename_i h1
    rw [if_pos h1]
    obtain ⟨m, hm⟩ : ∃ m : Nat, Lib.indexByte s 61 = m := ⟨(Lib.indexByte s 61).toNat, by omega⟩
    obtain ⟨h2, h3, _⟩ := indexByte_some hm
    rw [hm, Int.toNat_natCast]
    show s.take m ++ [61] ++ s.drop (m + 1) = s
    conv => rhs; rw [← List.take_append_drop m s, drop_nth 0 h2, h3]
    simp
  · cases h
theorem cutA_len (s : List UInt8) (c : UInt8) : (cutA s c).length ≤ s.length := by
  unfold cutA; split
  · rw [List.length_take]; omega
  · exact Nat.le_refl _
theorem assign_len (s : List UInt8) : (assignP s).1.length ≤ s.length ∧ (assignP s).2.1.length ≤ s.length := by
  unfold assignP; split
  · simp only [List.length_take, List.length_drop]; omega
  · exact ⟨Nat.zero_le _, Nat.zero_le _⟩
set_option maxRecDepth 10000 in
theorem assign_pure (s : List UInt8) (w : World) (hs : s.length ≤ 1000000000) (hG : EnvI (look w)) : Pure Tryd.prog 12 [str s] w (.tuple #[str (assignP s).1, str (assignP s).2.1, .bool (assignP s).2.2]) := by
  refine enter Tryd.func12 rfl Tryd.ntmps12 rfl (St.start w (look w) (Le.refl _)) ?_
  refine t_seq ?_
  refine t_region ?_
  refine l_q rfl rfl rfl (q_assign rfl rfl) ?_
  refine l_q rfl rfl rfl (q_assign rfl rfl) ?_
  refine l_q rfl rfl rfl (q_assign rfl rfl) ?_
  refine l_nil ?_
  refine n_then ?_
  refine t_seq ?_
  refine t_region ?_
  refine l_q rfl rfl rfl (q_move rfl rfl) ?_
  refine l_q rfl rfl rfl (quiet_call rfl rfl rfl Tryd.func20 (by kernel_rfl) rfl ((fun w hw => cutc_pure s 61 w (by omega) (hG.mono hw.le)))) ?_
  refine l_q rfl rfl rfl (q_move rfl rfl) ?_
  refine l_q rfl rfl rfl (q_extract rfl rfl rfl) ?_
  refine l_q rfl rfl rfl (q_extract rfl rfl rfl) ?_
  refine l_q rfl rfl rfl (q_extract rfl rfl rfl) ?_
  refine l_q rfl rfl rfl (q_assign rfl rfl) ?_
  refine l_q rfl rfl rfl (q_assign rfl rfl) ?_
  refine l_q rfl rfl rfl (q_assign rfl rfl) ?_
  refine l_nil ?_
  refine n_then ?_
  refine t_seq ?_
  refine t_seq ?_
  refine t_qreg ?_
  refine s_q rfl rfl rfl (q_move rfl rfl) ?_
  refine s_q rfl rfl rfl (q_not rfl rfl) ?_
  refine s_q rfl rfl rfl (q_move rfl rfl) ?_
  refine s_or2 3 2 16 20 19 _ _ rfl rfl rfl rfl rfl rfl (fun h20 => by
      try simp at h20
      refine s_g rfl rfl rfl rfl rfl rfl (q_move rfl rfl) ?_
      refine s_g rfl rfl rfl rfl rfl rfl (quiet_call rfl rfl rfl Tryd.func16 (by kernel_rfl) rfl ((fun w _ => name_pure (cutA s 61) w (by have := cutA_len s 61; omega)))) ?_
      refine s_g rfl rfl rfl rfl rfl rfl (q_not rfl rfl) ?_
      exact s_val rfl
    ) (wanted_n rfl) rfl rfl rfl ?_
  refine s_done ?_
  refine n_then ?_
  refine t_cond rfl (fun hc0 => ?_) (fun hc0 => ?_)
  · skip
    have h := assign_no hc0
    refine t_seq ?_
    refine t_region ?_
    refine l_q rfl rfl rfl (q_assign rfl rfl) ?_
    refine l_q rfl rfl rfl (q_assign rfl rfl) ?_
    refine l_q rfl rfl rfl (q_assign rfl rfl) ?_
    refine l_nil ?_
    refine n_then ?_
    refine t_ret ?_
    refine n_ret_then ?_
    refine n_ret3 rfl rfl rfl rfl (fun w' hw => ?_)
    -- leaf 0
    refine ⟨?_, hw.below⟩
    rw [h]; rfl
  · skip
    have h := assign_yes hc0
    refine t_skip ?_
    refine n_then ?_
    refine t_seq ?_
    refine t_region ?_
    refine l_q rfl rfl rfl (q_move rfl rfl) ?_
    refine l_q rfl rfl rfl (q_move rfl rfl) ?_
    refine l_q rfl rfl rfl (q_assign rfl rfl) ?_
    refine l_q rfl rfl rfl (q_assign rfl rfl) ?_
    refine l_q rfl rfl rfl (q_assign rfl rfl) ?_
    refine l_nil ?_
    refine n_then ?_
    refine t_ret ?_
    refine n_ret3 rfl rfl rfl rfl (fun w' hw => ?_)
    -- leaf 1
    refine ⟨?_, hw.below⟩
    rw [h]; rfl
set_option maxRecDepth 10000 in
theorem rassign_pure (s : List UInt8) (w : World) (hs : s.length ≤ 1000000000) : Pure Tryd.prog 13 [str s] w (.tuple #[str (assignP s).1, str (assignP s).2.1, .bool (assignP s).2.2]) := by
  refine enter Tryd.func13 rfl Tryd.ntmps13 rfl (St.start w (look w) (Le.refl _)) ?_
  refine t_seq ?_
  refine t_region ?_
  refine l_q rfl rfl rfl (q_assign rfl rfl) ?_
  refine l_q rfl rfl rfl (q_assign rfl rfl) ?_
  refine l_q rfl rfl rfl (q_assign rfl rfl) ?_
  refine l_nil ?_
  refine n_then ?_
  refine t_seq ?_
  refine t_seq ?_
  refine t_region ?_
  refine l_q rfl rfl rfl (q_assign rfl rfl) ?_
  refine l_nil ?_
  refine n_then ?_
  refine t_block ?_
  refine t_loopE (ι := Nat) (fun zz => zz ≤ s.length ∧ ∀ k, k < zz → nth s k 0 ≠ 61) (fun zz => s.length - zz) (fun zz => [(5, .int .i64 (zz : Int))]) [(0, _)] (fun zz => look w) (fun zz => []) 0 ?_ (sub_cons rfl sub_nil) (sub_cons rfl sub_nil) (fun _ h => subC_st h) ?_
  · try dsimp only
    exact ⟨Nat.zero_le _, fun k h => absurd h (Nat.not_lt_zero _)⟩
  rintro i ⟨hi, hno⟩
  try dsimp only at *
  refine t_seq ?_
  refine t_seq ?_
  refine t_region ?_
  refine l_q rfl rfl rfl (q_move rfl rfl) ?_
  refine l_q rfl rfl rfl (q_move rfl rfl) ?_
  refine l_q rfl rfl rfl (q_len_str rfl Tryd.underlying9 rfl) ?_
  refine l_q rfl rfl rfl (q_lss rfl rfl rfl) ?_
  refine l_nil ?_
  refine n_then ?_
  refine t_cond rfl (fun hc0 => ?_) (fun hc0 => ?_)
  · skip
    try simp at hc0
    have hil : i < s.length := by omega
    refine t_skip ?_
    refine n_then ?_
    refine t_seq ?_
    refine t_block ?_
    refine t_seq ?_
    refine t_region ?_
    refine l_q rfl rfl rfl (q_move rfl rfl) ?_
    refine l_q rfl rfl rfl (q_move rfl rfl) ?_
    refine l_q rfl rfl rfl ((by first | exact q_index_strN rfl Tryd.underlying9 rfl rfl (by omega) | exact q_index_str rfl Tryd.underlying9 rfl rfl (by omega))) ?_
    refine l_q rfl rfl rfl (q_eql_u8c rfl rfl rfl rfl) ?_
    refine l_nil ?_
    refine n_then ?_
    refine t_cond rfl (fun hc1 => ?_) (fun hc1 => ?_)
    · skip
      simp only [decide_eq_true_eq, decide_eq_false_iff_not] at hc1
      have hix := assign_at hil hc1 hno
      refine t_seq ?_
      refine t_seq ?_
      refine t_region ?_
      refine l_q rfl rfl rfl (q_move rfl rfl) ?_
      refine l_q rfl rfl rfl (q_move rfl rfl) ?_
      refine l_q rfl rfl rfl (q_slice_str_to rfl Tryd.underlying9 rfl rfl (by omega)) ?_
      refine l_q rfl rfl rfl (quiet_call rfl rfl rfl Tryd.func21 (by kernel_rfl) rfl ((fun w _ => rname_pure (s.take i) w (by rw [List.length_take]; omega)))) ?_
      refine l_nil ?_
      refine n_then ?_
      refine t_cond rfl (fun hc2 => ?_) (fun hc2 => ?_)
      · skip
        have h : assignP s = (s.take i, s.drop (i + 1), true) := by unfold assignP; rw [hix, if_pos ⟨by omega, hc2⟩, Int.toNat_natCast]
        refine t_seq ?_
        refine t_qdraw mo (by kernel_rfl) (fun _ _ _ _ _ h => h) ?_
        refine s_q rfl rfl rfl (q_move rfl rfl) ?_
        refine s_q rfl rfl rfl (q_move rfl rfl) ?_
        refine s_q rfl rfl rfl (q_slice_str_to rfl Tryd.underlying9 rfl rfl (by omega)) ?_
        refine s_q rfl rfl rfl (q_move rfl rfl) ?_
        refine s_q rfl rfl rfl (q_move rfl rfl) ?_
        refine s_q rfl rfl rfl (q_add64 rfl rfl rfl (by omega)) ?_
        refine s_q rfl rfl rfl (q_slice_str_from rfl Tryd.underlying9 rfl rfl (by omega)) ?_
        refine s_q rfl rfl rfl (q_assign rfl rfl) ?_
        refine s_q rfl rfl rfl (q_assign rfl rfl) ?_
        refine s_q rfl rfl rfl (q_assign rfl rfl) ?_
        refine s_done ?_
        refine n_then ?_
        refine t_ret ?_
        refine n_ret_then ?_
        refine n_ret_block ?_
        refine n_ret_then ?_
        refine n_ret_then ?_
        refine n_ret_block ?_
        refine n_ret_then ?_
        refine n_ret3 rfl rfl rfl rfl (fun w' hw => ?_)
        -- leaf 0
        refine ⟨?_, hw.below⟩
        rw [h]; rfl
      · skip
        have h : assignP s = ([], [], false) := by unfold assignP; rw [hix, if_neg (fun h => by have h2 := h.2; rw [Int.toNat_natCast, hc2] at h2; cases h2)]
        refine t_skip ?_
        refine n_then ?_
        refine t_seq ?_
        refine t_region ?_
        refine l_q rfl rfl rfl (q_assign rfl rfl) ?_
        refine l_q rfl rfl rfl (q_assign rfl rfl) ?_
        refine l_q rfl rfl rfl (q_assign rfl rfl) ?_
        refine l_nil ?_
        refine n_then ?_
        refine t_ret ?_
        refine n_ret_block ?_
        refine n_ret_then ?_
        refine n_ret_then ?_
        refine n_ret_block ?_
        refine n_ret_then ?_
        refine n_ret3 rfl rfl rfl rfl (fun w' hw => ?_)
        -- leaf 1
        refine ⟨?_, hw.below⟩
        rw [h]; rfl
    · skip
      simp only [decide_eq_true_eq, decide_eq_false_iff_not] at hc1
      have hc1 : nth s i 0 ≠ 61 := hc1
      refine t_skip ?_
      refine n_block ?_
      refine n_then ?_
      refine t_region ?_
      refine l_q rfl rfl rfl (q_move rfl rfl) ?_
      refine l_q rfl rfl rfl (q_add64 rfl rfl rfl (by omega)) ?_
      refine l_q rfl rfl rfl (q_assign rfl rfl) ?_
      refine l_nil ?_
      refine n_roundE (i + 1) ?_ ?_ (sub_cons rfl sub_nil) (sub_cons rfl sub_nil) (fun _ h => by try dsimp only; exact subC_st h)
      · try dsimp only
        refine ⟨by omega, fun k hk => ?_⟩
        rcases Nat.lt_succ_iff_lt_or_eq.1 hk with h | rfl
        · exact hno k h
        · exact hc1
      · try dsimp only
        show s.length - (i + 1) < s.length - i
        omega
  · skip
    try simp at hc0
    have h := assign_none (s := s) (fun k hk => hno k (by omega))
    refine t_exit ?_
    refine n_exit_then ?_
    refine n_exit_then ?_
    refine n_exit_block ?_
    refine n_then ?_
    refine t_seq ?_
    refine t_region ?_
    refine l_q rfl rfl rfl (q_assign rfl rfl) ?_
    refine l_q rfl rfl rfl (q_assign rfl rfl) ?_
    refine l_q rfl rfl rfl (q_assign rfl rfl) ?_
    refine l_nil ?_
    refine n_then ?_
    refine t_ret ?_
    refine n_ret3 rfl rfl rfl rfl (fun w' hw => ?_)
    -- leaf 2
    refine ⟨?_, hw.below⟩
    rw [h]; rfl
set_option maxRecDepth 10000 in
theorem wordAssigns_pure (s : List UInt8) (w : World) (hs : s.length ≤ 1048576) (hG : EnvI (look w)) : Pure Tryd.prog 4 [str s] w (.bool true) := by
  refine enter Tryd.func4 rfl Tryd.ntmps4 rfl (St.start w (look w) (Le.refl _)) ?_
  refine t_seq ?_
  refine t_region ?_
  refine l_q rfl rfl rfl (q_assign rfl rfl) ?_
  refine l_nil ?_
  refine n_then ?_
  refine t_seq ?_
  refine t_seq ?_
  refine t_region ?_
  refine l_q rfl rfl rfl (quiet_call rfl rfl rfl Tryd.func8 (by kernel_rfl) rfl ((fun w hw => awake_pure w (hG.mono hw.le)))) ?_
  refine l_q rfl rfl rfl (q_not rfl rfl) ?_
  refine l_nil ?_
  refine n_then ?_
  refine t_cond rfl (fun hc0 => ?_) (fun hc0 => ?_)
  · skip
    try simp at hc0
  · skip
    try simp at hc0
    refine t_skip ?_
    refine n_then ?_
    refine t_seq ?_
    refine t_region ?_
    refine l_q rfl rfl rfl (q_move rfl rfl) ?_
    refine l_q rfl rfl rfl (quiet_call rfl rfl rfl Tryd.func12 (by kernel_rfl) rfl ((fun w hw => assign_pure s w (by omega) (hG.mono hw.le)))) ?_
    refine l_q rfl rfl rfl (q_move rfl rfl) ?_
    refine l_q rfl rfl rfl (q_extract rfl rfl rfl) ?_
    refine l_q rfl rfl rfl (q_extract rfl rfl rfl) ?_
    refine l_q rfl rfl rfl (q_extract rfl rfl rfl) ?_
    refine l_q rfl rfl rfl (q_assign rfl rfl) ?_
    refine l_q rfl rfl rfl (q_assign rfl rfl) ?_
    refine l_q rfl rfl rfl (q_assign rfl rfl) ?_
    refine l_nil ?_
    refine n_then ?_
    refine t_seq ?_
    refine t_region ?_
    refine l_q rfl rfl rfl (q_move rfl rfl) ?_
    refine l_q rfl rfl rfl (quiet_call rfl rfl rfl Tryd.func13 (by kernel_rfl) rfl ((fun w _ => rassign_pure s w (by omega)))) ?_
    refine l_q rfl rfl rfl (q_move rfl rfl) ?_
    refine l_q rfl rfl rfl (q_extract rfl rfl rfl) ?_
    refine l_q rfl rfl rfl (q_extract rfl rfl rfl) ?_
    refine l_q rfl rfl rfl (q_extract rfl rfl rfl) ?_
    refine l_q rfl rfl rfl (q_assign rfl rfl) ?_
    refine l_q rfl rfl rfl (q_assign rfl rfl) ?_
    refine l_q rfl rfl rfl (q_assign rfl rfl) ?_
    refine l_nil ?_
    refine n_then ?_
    refine t_seq ?_
    have hal : (assignP s).1.length ≤ s.length ∧ (assignP s).2.1.length ≤ s.length := assign_len s
    refine t_qreg ?_
    refine s_q rfl rfl rfl (q_move rfl rfl) ?_
    refine s_q rfl rfl rfl (q_move rfl rfl) ?_
    refine s_q rfl rfl rfl (q_eql_str rfl rfl rfl) ?_
    refine s_q rfl rfl rfl (q_move rfl rfl) ?_
    refine s_and2 3 3 26 30 29 _ _ rfl rfl rfl rfl rfl rfl (fun h30 => by
        try simp at h30
        refine s_g rfl rfl rfl rfl rfl rfl (q_move rfl rfl) ?_
        refine s_g rfl rfl rfl rfl rfl rfl (q_move rfl rfl) ?_
        refine s_g rfl rfl rfl rfl rfl rfl (q_eql_str rfl rfl rfl) ?_
        exact s_val rfl
      ) (wanted_n rfl) rfl rfl rfl ?_
    refine s_q rfl rfl rfl (q_move rfl rfl) ?_
    refine s_and2 3 8 31 35 34 _ _ rfl rfl rfl rfl rfl rfl (fun h35 => by
        try simp at h35
        refine s_g rfl rfl rfl rfl rfl rfl (q_move rfl rfl) ?_
        refine s_g rfl rfl rfl rfl rfl rfl (q_move rfl rfl) ?_
        refine s_g rfl rfl rfl rfl rfl rfl (q_eql_bool rfl Tryd.underlying4 rfl rfl) ?_
        exact s_val rfl
      ) (wanted_n rfl) rfl rfl rfl ?_
    refine s_q rfl rfl rfl (q_move rfl rfl) ?_
    refine s_and2 10 13 36 47 46 _ _ rfl rfl rfl rfl rfl rfl (fun h47 => by
        try simp at h47
        refine s_g rfl rfl rfl rfl rfl rfl (q_move rfl rfl) ?_
        refine s_g rfl rfl rfl rfl rfl rfl (q_not rfl rfl) ?_
        refine s_g rfl rfl rfl rfl rfl rfl (q_move rfl rfl) ?_
        refine s_or2 6 16 39 46 45 _ _ rfl rfl rfl rfl rfl rfl (fun h46 => by
            try simp at h46
            refine s_g rfl rfl rfl rfl rfl rfl (q_move rfl rfl) ?_
            refine s_g rfl rfl rfl rfl rfl rfl (q_cat rfl rfl rfl (by first | omega | (simp only [List.length_append, List.length_cons, List.length_nil, List.length_take, List.length_drop]; omega))) ?_
            refine s_g rfl rfl rfl rfl rfl rfl (q_move rfl rfl) ?_
            refine s_g rfl rfl rfl rfl rfl rfl (q_cat rfl rfl rfl (by first | omega | (simp only [List.length_append, List.length_cons, List.length_nil, List.length_take, List.length_drop]; omega))) ?_
            refine s_g rfl rfl rfl rfl rfl rfl (q_move rfl rfl) ?_
            refine s_g rfl rfl rfl rfl rfl rfl (q_eql_str rfl rfl rfl) ?_
            exact s_val rfl
          ) (wanted_g rfl rfl rfl rfl) rfl rfl rfl ?_
        exact s_val rfl
      ) (wanted_n rfl) rfl rfl rfl ?_
    refine s_q rfl rfl rfl (q_assign rfl rfl) ?_
    refine s_done ?_
    refine n_then ?_
    refine t_ret ?_
    refine n_ret1 rfl rfl (fun w' hw => ?_)
    -- leaf 0
    refine ⟨?_, hw.below⟩
    refine congrArg (fun b => Ending.returned (Value.bool b)) (?_ : _ = true)
    cases h : (assignP s).2.2 with
    | false => simp [h]
    | true =>
      have hb := assign_back h
      simp [h, hb]
end Go.Tri
