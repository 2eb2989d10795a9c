/-
  A text quoted.
-/
import Derived.Test.YtblgilokdmmjeaaDoorWA7
import Derived.Test.YtblgilokdmmjeaaDoorPLex12
import Derived.Test.YtblgilokdmmjeaaDoorPOct
import Derived.Test.YtblgilokdmmjeaaDoorTriB14
import Derived.Test.YtblgilokdmmjeaaDoorWSh
import Derived.Shelf.Strings.SlTrimAscii
namespace Go.Tri
open Go.Proofs Go.RowKit
/-- what the package variables hold -/
def EnvI (I : Look) : Prop := ∃ m, CellI I 0 0 (.int .i64 m)
theorem EnvI.mono {I J : Look} (h : EnvI I) (k : Le I J) : EnvI J := let ⟨m, hm⟩ := h; ⟨m, hm.mono k⟩
theorem EnvI.cell {w : World} (h : EnvI (look w)) : ∃ m, w.cell? ⟨0, 0, none⟩ = some (.int .i64 m) := by
  obtain ⟨m, cur, U, fr, h1, h2⟩ := h
  refine ⟨m, ?_⟩
  unfold World.cell?
  have h1' : w.heap[0]? = some (.cells cur U fr) := h1
  simp [h1', h2]
theorem contains_pure (s sub : List UInt8) (w : World) (hs : s.length ≤ 1000000000) (hG : EnvI (look w)) : Pure Tryd.prog 72 [str s, str sub] w (.bool (Lib.contains s sub)) := by
  obtain ⟨m, hm⟩ := hG.cell
  have hsz := size_str s
  refine (Tryd.strings_Contains ⟨s.toArray⟩ ⟨sub.toArray⟩ m w (by omega) hm).mono fun e w' ⟨h1, h2⟩ => ?_
  subst h2
  exact ⟨h1, Below.refl _ _⟩
theorem contains_odd (c : UInt8) : decide (0 ≤ Lib.indexByte oddText c) = hasB oddText c := indexByte_has _ _
theorem rune_pure (n : Nat) (w : World) (h : n < 128) : Pure Tryd.prog 26 [str oddText, .int .i32 (n : Int)] w (.bool (hasB oddText (UInt8.ofNat n))) := by
  refine (Tryd.strings_ContainsRune_ascii ⟨oddText.toArray⟩ (n : Int) w (by omega) (by omega)).mono fun e w' ⟨h1, h2⟩ => ?_
  subst h2
  refine ⟨?_, Below.refl _ _⟩
  rw [h1, ← contains_odd]
  rfl
theorem oddR_eq (x : Nat) : oddR x = !(decide ((x : Int) < 128) && (letterB (UInt8.ofNat x) || decide ((48 : Int) ≤ (x : Int)) && decide ((x : Int) ≤ 57) || hasB oddText (UInt8.ofNat x))) := by
  unfold oddR plainC digitB'
  by_cases h : x < 128
  · have h' : (UInt8.ofNat x).toNat = x := by rw [UInt8.toNat_ofNat']; omega
    rw [h', show decide ((x : Int) < 128) = true from decide_eq_true (by omega), show decide (x < 128) = true from decide_eq_true h]
  · rw [show decide ((x : Int) < 128) = false from decide_eq_false (by omega), show decide (x < 128) = false from decide_eq_false h]; rfl
set_option maxRecDepth 10000 in
theorem letter_pure (c : UInt8) (w : World) : Pure Tryd.prog 25 [u8 c] w (.bool (letterB c)) := by
  refine enter Tryd.func25 rfl Tryd.ntmps25 rfl (St.start w (look w) (Le.refl _)) ?_
  refine t_seq ?_
  refine t_region ?_
  refine l_q rfl rfl rfl (q_assign rfl rfl) ?_
  refine l_nil ?_
  refine n_then ?_
  refine t_seq ?_
  refine t_qreg ?_
  refine s_q rfl rfl rfl (q_move rfl rfl) ?_
  refine s_q rfl rfl rfl (q_or_u8 (d := 32) rfl rfl rfl) ?_
  refine s_q rfl rfl rfl (q_leq rfl rfl rfl) ?_
  refine s_q rfl rfl rfl (q_move rfl rfl) ?_
  refine s_and2 3 3 6 10 9 _ _ rfl rfl rfl rfl rfl rfl (fun h10 => by
      try simp at h10
      refine s_g rfl rfl rfl rfl rfl rfl (q_move rfl rfl) ?_
      refine s_g rfl rfl rfl rfl rfl rfl (q_or_u8 (d := 32) rfl rfl rfl) ?_
      refine s_g rfl rfl rfl rfl rfl rfl (q_leq rfl rfl rfl) ?_
      exact s_val rfl
    ) (wanted_n rfl) rfl rfl rfl ?_
  refine s_q rfl rfl rfl (q_move rfl rfl) ?_
  refine s_and2 2 8 11 14 13 _ _ rfl rfl rfl rfl rfl rfl (fun h14 => by
      try simp at h14
      refine s_g rfl rfl rfl rfl rfl rfl (q_move rfl rfl) ?_
      refine s_g rfl rfl rfl rfl rfl rfl (q_lss rfl rfl rfl) ?_
      exact s_val rfl
    ) (wanted_n rfl) rfl rfl rfl ?_
  refine s_q rfl rfl rfl (q_move rfl rfl) ?_
  refine s_or2 2 12 15 18 17 _ _ rfl rfl rfl rfl rfl rfl (fun h18 => by
      try simp at h18
      refine s_g rfl rfl rfl rfl rfl rfl (q_move rfl rfl) ?_
      refine s_g rfl rfl rfl rfl rfl rfl (q_eql_u8c rfl rfl rfl rfl) ?_
      exact s_val rfl
    ) (wanted_n rfl) rfl rfl rfl ?_
  refine s_q rfl rfl rfl (q_assign rfl rfl) ?_
  refine s_done ?_
  refine n_then ?_
  refine t_ret ?_
  refine n_ret1 rfl rfl (fun w' hw => ?_)
  -- leaf 0
  refine ⟨?_, hw.below⟩
  rw [← letter_or c]; rfl
set_option maxRecDepth 10000 in
theorem quote1_pure (x : Nat) (w : World) : Pure Tryd.prog 24 [.int .i32 (x : Int)] w (.bool (oddR x)) := by
  refine enter Tryd.func24 rfl Tryd.ntmps24 rfl (St.start w (look w) (Le.refl _)) ?_
  refine t_seq ?_
  refine t_region ?_
  refine l_q rfl rfl rfl (q_assign rfl rfl) ?_
  refine l_nil ?_
  refine n_then ?_
  refine t_seq ?_
  refine t_qreg ?_
  refine s_q rfl rfl rfl (q_move rfl rfl) ?_
  refine s_q rfl rfl rfl (q_lss rfl rfl rfl) ?_
  refine s_q rfl rfl rfl (q_move rfl rfl) ?_
  refine s_and2 15 2 5 21 20 _ _ rfl rfl rfl rfl rfl rfl (fun h21 => by
      try simp at h21
      have hx : x < 128 := by omega
      refine s_g rfl rfl rfl rfl rfl rfl (q_move rfl rfl) ?_
      refine s_g rfl rfl rfl rfl rfl rfl (q_conv_u8 x rfl Tryd.underlying21 Tryd.underlying5 rfl rfl) ?_
      refine s_g rfl rfl rfl rfl rfl rfl (quiet_call rfl rfl rfl Tryd.func25 (by kernel_rfl) rfl ((fun w _ => letter_pure _ w))) ?_
      refine s_g rfl rfl rfl rfl rfl rfl (q_move rfl rfl) ?_
      refine s_or2 6 6 9 16 15 _ _ rfl rfl rfl rfl rfl rfl (fun h16 => by
          try simp at h16
          refine s_g rfl rfl rfl rfl rfl rfl (q_move rfl rfl) ?_
          refine s_g rfl rfl rfl rfl rfl rfl (q_leq rfl rfl rfl) ?_
          refine s_g rfl rfl rfl rfl rfl rfl (q_move rfl rfl) ?_
          refine s_and2 2 9 12 15 14 _ _ rfl rfl rfl rfl rfl rfl (fun h15 => by
              try simp at h15
              refine s_g rfl rfl rfl rfl rfl rfl (q_move rfl rfl) ?_
              refine s_g rfl rfl rfl rfl rfl rfl (q_leq rfl rfl rfl) ?_
              exact s_val rfl
            ) (wanted_g rfl rfl rfl rfl) rfl rfl rfl ?_
          exact s_val rfl
        ) (wanted_g rfl rfl rfl rfl) rfl rfl rfl ?_
      refine s_g rfl rfl rfl rfl rfl rfl (q_move rfl rfl) ?_
      refine s_or2 2 14 17 20 19 _ _ rfl rfl rfl rfl rfl rfl (fun h20 => by
          try simp at h20
          refine s_g rfl rfl rfl rfl rfl rfl (q_move rfl rfl) ?_
          refine s_g rfl rfl rfl rfl rfl rfl (quiet_call rfl rfl rfl Tryd.func26 (by kernel_rfl) rfl ((fun w _ => rune_pure x w (by omega)))) ?_
          exact s_val rfl
        ) (wanted_g rfl rfl rfl rfl) rfl rfl rfl ?_
      exact s_val rfl
    ) (wanted_n rfl) rfl rfl rfl ?_
  refine s_q rfl rfl rfl (q_not rfl rfl) ?_
  refine s_q rfl rfl rfl (q_assign rfl rfl) ?_
  refine s_done ?_
  refine n_then ?_
  refine t_ret ?_
  refine n_ret1 rfl rfl (fun w' hw => ?_)
  -- leaf 0
  refine ⟨?_, hw.below⟩
  rw [oddR_eq]
theorem contF_pure (s : List UInt8) (w : World) : Pure Tryd.prog 27 [str s, .func (.func 24) #[] #[]] w (.bool (!s.all plainC)) := by
  refine (Tryd.strings_ContainsFunc_grows 24 #[] (fun args w => call_of Tryd.func24 (by kernel_rfl) rfl args w) oddR ⟨s.toArray⟩ w ?_).mono fun e w' ⟨h1, h2⟩ => ?_
  · intro W x _ _
    exact (quote1_pure x W)
  · refine ⟨?_, h2⟩
    rw [h1, idxFunc_plain]
theorem repl_pure (s : List UInt8) (w : World) (hs : s.length ≤ 1000000000) (hG : EnvI (look w)) : Pure Tryd.prog 28 [str s, str [39], str [39, 92, 39, 39]] w (str (escB s)) := by
  obtain ⟨m, hm⟩ := hG.cell
  have hsz := size_str s
  refine (Tryd.strings_ReplaceAll ⟨s.toArray⟩ ⟨#[39]⟩ ⟨#[39, 92, 39, 39]⟩ m w (by omega) hm (by decide) ?_).mono fun e w' ⟨h1, h2⟩ => ?_
  · have := Lib.countB_le ⟨#[39]⟩ (by decide) s.length ⟨s.toArray⟩ (by omega)
    have h4 : (⟨#[39, 92, 39, 39]⟩ : ByteArray).size = 4 := rfl
    rw [h4]
    omega
  · refine ⟨?_, h2⟩
    rw [h1]
    show Ending.returned (Value.string ⟨(Lib.replaceAll s.toArray.toList [39] [39, 92, 39, 39]).toArray⟩) = _
    rw [show s.toArray.toList = s from by simp, replaceAll_esc]
    rfl
set_option maxRecDepth 10000 in
theorem quote_pure (s : List UInt8) (w : World) (hs : s.length ≤ 1000000000) (hG : EnvI (look w)) : Pure Tryd.prog 15 [str s] w (str (quoteB s)) := by
  refine enter Tryd.func15 rfl Tryd.ntmps15 rfl (St.start w (look w) (Le.refl _)) ?_
  refine t_seq ?_
  refine t_region ?_
  refine l_q rfl rfl rfl (q_assign rfl rfl) ?_
  refine l_nil ?_
  refine n_then ?_
  refine t_seq ?_
  refine t_region ?_
  refine l_q rfl rfl rfl (q_assign rfl rfl) ?_
  refine l_nil ?_
  refine n_then ?_
  refine t_seq ?_
  refine t_seq ?_
  refine t_qreg ?_
  refine s_q rfl rfl rfl (q_move rfl rfl) ?_
  refine s_q rfl rfl rfl (q_neq_str rfl rfl rfl) ?_
  refine s_q rfl rfl rfl (q_move rfl rfl) ?_
  refine s_and2 4 2 6 11 10 _ _ rfl rfl rfl rfl rfl rfl (fun h11 => by
      try simp at h11
      refine s_g rfl rfl rfl rfl rfl rfl (q_move rfl rfl) ?_
      refine s_g rfl rfl rfl rfl rfl rfl (q_move rfl rfl) ?_
      refine s_g rfl rfl rfl rfl rfl rfl (quiet_call rfl rfl rfl Tryd.func27 (by kernel_rfl) rfl ((fun w _ => contF_pure s w))) ?_
      refine s_g rfl rfl rfl rfl rfl rfl (q_not rfl rfl) ?_
      exact s_val rfl
    ) (wanted_n rfl) rfl rfl rfl ?_
  refine s_done ?_
  refine n_then ?_
  refine t_cond rfl (fun hc0 => ?_) (fun hc0 => ?_)
  · skip
    refine t_seq ?_
    refine t_region ?_
    refine l_q rfl rfl rfl (q_move rfl rfl) ?_
    refine l_q rfl rfl rfl (q_assign rfl rfl) ?_
    refine l_nil ?_
    refine n_then ?_
    refine t_ret ?_
    refine n_ret_then ?_
    refine n_ret1 rfl rfl (fun w' hw => ?_)
    -- leaf 0
    refine ⟨?_, hw.below⟩
    rw [quoteB, if_pos]; rw [← hc0]; simp
  · skip
    refine t_skip ?_
    refine n_then ?_
    refine t_seq ?_
    have hel := escB_len s
    refine t_region ?_
    refine l_q rfl rfl rfl (q_move rfl rfl) ?_
    refine l_q rfl rfl rfl (quiet_call rfl rfl rfl Tryd.func28 (by kernel_rfl) rfl ((fun w hw => repl_pure s w hs (hG.mono hw.le)))) ?_
    refine l_q rfl rfl rfl (q_cat rfl rfl rfl (by first | omega | (simp only [List.length_append, List.length_cons, List.length_nil, List.length_take, List.length_drop]; omega))) ?_
    refine l_q rfl rfl rfl (q_cat rfl rfl rfl (by first | omega | (simp only [List.length_append, List.length_cons, List.length_nil, List.length_take, List.length_drop]; omega))) ?_
    refine l_q rfl rfl rfl (q_assign rfl rfl) ?_
    refine l_nil ?_
    refine n_then ?_
    refine t_ret ?_
    refine n_ret1 rfl rfl (fun w' hw => ?_)
    -- leaf 1
    refine ⟨?_, hw.below⟩
    rw [quoteB, if_neg]; rw [Bool.not_eq_true, ← hc0]; simp
end Go.Tri
