/-
  The statements: awake.
-/
import Derived.Test.YtigfpkcaakkgaaaDoorOA4
namespace Go.Tri
open Go.Proofs Go.RowKit
theorem stC_line {s : List UInt8} {nn : Nat} {vs : List Value} (h : ((linesB s).map stC)[nn]? = some vs) : nn < (linesB s).length ∧ vs = [str (nth (linesB s) nn [])] := by
  obtain ⟨hlt, hx⟩ := List.getElem?_eq_some_iff.1 h
  rw [List.length_map] at hlt
  refine ⟨hlt, ?_⟩
  rw [← hx, List.getElem_map, nth_eq hlt]; rfl
theorem stC_one {l : List (List UInt8)} : ∀ vs ∈ l.map stC, vs.length = 1 := fun vs h => by
  obtain ⟨x, _, rfl⟩ := List.mem_map.1 h; rfl
theorem lines_line_len {s : List UInt8} {nn : Nat} (h : nn < (linesB s).length) : (((linesB s).take nn).flatten).length + (nth (linesB s) nn []).length ≤ s.length := by
  have h1 := congrArg List.length (lines_flat s.length s (Nat.le_refl _))
  rw [← List.take_append_drop (nn + 1) (linesB s), List.flatten_append, List.length_append, take_nth [] h, List.flatten_append, List.length_append] at h1
  simp at h1 ⊢; omega
theorem name_snoc (s : List UInt8) (c : UInt8) (h : nameB s = true) : nameB (s ++ [c]) = (letterB c || digitB' c) := by
  have h1 := nameB_iff.1 h
  have hp := List.length_pos_iff.2 h1.1
  have e1 : ∀ i, i < s.length → okN (s ++ [c]) i = okN s i := fun i hi => by
    have : nth (s ++ [c]) i 0 = nth s i 0 := by
      unfold nth; rw [List.getD_eq_getElem?_getD, List.getD_eq_getElem?_getD, List.getElem?_append_left hi]
    unfold okN; rw [this]
  have e2 : okN (s ++ [c]) s.length = (letterB c || digitB' c) := by
    have : nth (s ++ [c]) s.length 0 = c := by unfold nth; simp
    unfold okN; rw [this]
    have : decide ((s.length : Int) = 0) = false := decide_eq_false (by omega)
    rw [this]; simp
  cases hx : (letterB c || digitB' c) with
  | true =>
    rw [nameB_all]
    · simp
    · intro i hi
      rw [List.length_append, List.length_singleton] at hi
      by_cases h2 : i < s.length
      · rw [e1 i h2]; exact h1.2 i h2
      · rw [show i = s.length by omega, e2, hx]
  | false => exact nameB_false (i := s.length) (by simp) (by rw [e2, hx])
theorem name_one (s : List UInt8) : nameB ([49] ++ s) = false := nameB_false (i := 0) (by simp) rfl
theorem name_under (s : List UInt8) (h : nameB s = true) : nameB ([95] ++ s) = true := by
  have h1 := nameB_iff.1 h
  rw [nameB_iff]
  refine ⟨by simp, fun i hi => ?_⟩
  cases i with
  | zero => rfl
  | succ i =>
    have h2 := h1.2 i (by simpa using hi)
    have : nth ([95] ++ s) (i + 1) 0 = nth s i 0 := rfl
    unfold okN at h2 ⊢
    rw [this]
    cases hl : letterB (nth s i 0) with
    | true => simp
    | false =>
      rw [hl] at h2
      have : decide (((i + 1 : Nat) : Int) = 0) = false := decide_eq_false (by omega)
      rw [this]
      simp at h2 ⊢
      exact h2.2
theorem part_eq (c : UInt8) : (decide ((48 : Int) ≤ (c.toNat : Int)) && decide ((c.toNat : Int) ≤ 57) || (decide ((97 : Int) ≤ (c.toNat : Int)) && decide ((c.toNat : Int) ≤ 122)) || (decide ((65 : Int) ≤ (c.toNat : Int)) && decide ((c.toNat : Int) ≤ 90)) || decide (c = 95)) = (letterB c || digitB' c) := by
  unfold letterB digitB'
  cases decide ((48 : Int) ≤ (c.toNat : Int)) <;> cases decide ((c.toNat : Int) ≤ 57) <;> cases decide ((97 : Int) ≤ (c.toNat : Int)) <;> cases decide ((c.toNat : Int) ≤ 122) <;> cases decide ((65 : Int) ≤ (c.toNat : Int)) <;> cases decide ((c.toNat : Int) ≤ 90) <;> cases decide (c = 95) <;> rfl
theorem zeros_num {z n : Nat} (h : n ≤ 9223372036854775807) : numB (List.replicate z 48 ++ Lib.itoa n) = some (n : Int) ∧ numB ([45] ++ (List.replicate z 48 ++ Lib.itoa n)) = some (-(n : Int)) ∧ numB ([43] ++ (List.replicate z 48 ++ Lib.itoa n)) = some (n : Int) := by
  have e : Lib.itoa n = Lib.decDigits n := by rw [itoa_eq, if_neg (by omega)]; congr 1
  have hd : decV 0 (List.replicate z 48 ++ Lib.decDigits n) = some n := by rw [decV_zeros, decV_digits]
  have hne : List.replicate z 48 ++ Lib.decDigits n ≠ [] := fun h => digits_ne n (List.append_eq_nil_iff.1 h).2
  rw [e]
  refine ⟨numB_plain hne ?_ hd (by unfold two63; omega), numB_minus hne hd (by unfold two63; omega), numB_plus hne hd (by unfold two63; omega)⟩
  cases z with
  | zero => exact digits_head n
  | succ z => rfl
set_option maxRecDepth 10000 in
theorem awake_pure (w : World) (hG : GW w) : Pure Tryd.prog 10 [] w (.bool true) := by
  refine enter Tryd.func10 rfl Tryd.ntmps10 rfl (St.start w (look w) (Le.refl _)) ?_
  refine t_seq ?_
  refine t_region ?_
  refine l_q rfl rfl rfl (q_assign rfl rfl) ?_
  refine l_nil ?_
  refine n_then ?_
  refine t_seq ?_
  refine t_region ?_
  refine l_q rfl rfl rfl (quiet_call rfl rfl rfl Tryd.func12 (by kernel_rfl) rfl ((fun w hw => number_pure [43, 48, 48, 55] w (by decide) (hG.le hw.le)))) ?_
  refine l_q rfl rfl rfl (q_move rfl rfl) ?_
  refine l_q rfl rfl rfl (q_extract rfl rfl rfl) ?_
  refine l_q rfl rfl rfl (q_extract rfl rfl rfl) ?_
  refine l_q rfl rfl rfl (q_assign rfl rfl) ?_
  refine l_q rfl rfl rfl (q_assign rfl rfl) ?_
  refine l_nil ?_
  refine n_then ?_
  refine t_seq ?_
  refine t_qreg ?_
  refine s_q rfl rfl rfl (q_move rfl rfl) ?_
  refine s_q rfl rfl rfl (q_move rfl rfl) ?_
  refine s_and2 2 1 8 11 10 _ _ rfl rfl rfl rfl rfl rfl (fun h11 => by
      try simp at h11
      refine s_g rfl rfl rfl rfl rfl rfl (q_move rfl rfl) ?_
      refine s_g rfl rfl rfl rfl rfl rfl (q_eql rfl rfl rfl) ?_
      exact s_val rfl
    ) (wanted_n rfl) rfl rfl rfl ?_
  refine s_q rfl rfl rfl (q_move rfl rfl) ?_
  refine s_and2 2 5 12 15 14 _ _ rfl rfl rfl rfl rfl rfl (fun h15 => by
      try simp at h15
      refine s_g rfl rfl rfl rfl rfl rfl (quiet_call rfl rfl rfl Tryd.func11 (by kernel_rfl) rfl ((fun w hw => decimal_pure (-12) w (by omega) (hG.le hw.le)))) ?_
      refine s_g rfl rfl rfl rfl rfl rfl (q_eql_str rfl rfl rfl) ?_
      exact s_val rfl
    ) (wanted_n rfl) rfl rfl rfl ?_
  refine s_q rfl rfl rfl (q_move rfl rfl) ?_
  refine s_and2 2 9 16 19 18 _ _ rfl rfl rfl rfl rfl rfl (fun h19 => by
      try simp at h19
      refine s_g rfl rfl rfl rfl rfl rfl (quiet_call rfl rfl rfl Tryd.func17 (by kernel_rfl) rfl ((fun w hw => quote_pure [97, 32, 98] w (by decide) (hG.le hw.le)))) ?_
      refine s_g rfl rfl rfl rfl rfl rfl (q_eql_str rfl rfl rfl) ?_
      exact s_val rfl
    ) (wanted_n rfl) rfl rfl rfl ?_
  refine s_q rfl rfl rfl (q_assign rfl rfl) ?_
  refine s_done ?_
  refine n_then ?_
  refine t_ret ?_
  refine n_ret1 rfl rfl (fun w' hw => ?_)
  -- leaf 0
  refine ⟨?_, hw.below⟩
  refine congrArg (fun b => Ending.returned (Value.bool b)) (?_ : _ = true)
  decide +kernel
end Go.Tri
