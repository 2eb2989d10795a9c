/-
  Numbers.
-/
import Derived.Test.YtigfpkcaakkgaaaDoorOA3
import Derived.Lib.SmallJoins
import Derived.Shelf.Strings.SlTrimAscii
namespace Go.Tri
open Go.Proofs Go.RowKit
open Go.Sort
def numRes (s : List UInt8) : Value := .tuple #[.int .i64 ((numB s).getD 0), .bool (numB s).isSome]
theorem fmt_pure (n : Int) (w : World) (h : -9223372036854775808 ≤ n ∧ n ≤ 9223372036854775807) (hG : GW w) : Pure Tryd.prog 26 [.int .i64 n, .int .i64 10] w (str (Lib.itoa n)) :=
  (Tryd.strconv_FormatInt_10 n h.1 h.2 w hG.tab).mono fun e w' ⟨h1, k, os, h2⟩ => ⟨h1, h2 ▸ below_grown w k os⟩
def ParseR (s : List UInt8) (v : Value) : Prop := ∃ n e, v = .tuple #[.int .i64 n, e] ∧ ErrIs e (numB s).isNone ∧ ∀ m, numB s = some m → n = m
theorem parse_X (s : List UInt8) (w : World) (hs : s.length ≤ 281474976710656) (hG : GW w) : PureX Tryd.prog 28 [str s, .int .i64 10, .int .i64 64] w (ParseR s) := by
  have hsz := size_str s
  have hdt : (⟨s.toArray⟩ : ByteArray).data.toList = s := by simp
  rcases parse_cases s with ⟨v, h1, h2⟩ | ⟨h1, h2 | h2⟩
  · refine (Tryd.strconv_ParseInt_10_at64_ok ⟨s.toArray⟩ (by omega) v (by rw [hdt]; exact h1) w).mono fun e w' ⟨h3, h4⟩ => ⟨_, h3, ⟨v, _, rfl, .inl ⟨by rw [h2]; rfl, rfl⟩, fun m hm => by rw [h2] at hm; cases hm; rfl⟩, ?_⟩
    rcases h4 with rfl | ⟨t, rfl⟩
    · exact Below.refl _ _
    · exact Go.Joins.below_bytesWorld _ _ _ _ (Nat.le_refl _)
  · obtain ⟨ev, hv, hev⟩ := hG.syn
    exact (Tryd.strconv_ParseInt_10_at64_syntax ⟨s.toArray⟩ (by omega) (by rw [hdt]; exact h2) ev w hv hev).mono fun e w' ⟨N, h3, _, _, h4⟩ => ⟨_, h3, ⟨_, _, rfl, .inr ⟨by rw [h1]; rfl, _, _, rfl⟩, fun m hm => by rw [h1] at hm; cases hm⟩, h4⟩
  · obtain ⟨ev, hv, hev⟩ := hG.rng
    exact (Tryd.strconv_ParseInt_10_at64_range ⟨s.toArray⟩ (by omega) (by rw [hdt]; exact h2) ev w hv hev).mono fun e w' ⟨N, h3, _, _, h4⟩ => ⟨_, h3, ⟨_, _, rfl, .inr ⟨by rw [h1]; rfl, _, _, rfl⟩, fun m hm => by rw [h1] at hm; cases hm⟩, h4⟩
theorem trim_pure (s cs : List UInt8) (w : World) (hs : s.length ≤ 9223372036854775807) (hc : cs.length ≤ 1000) (ha : cs.all (fun b => decide (b.toNat < 128)) = true) : Pure Tryd.prog 27 [str s, str cs] w (str (Lib.trimS s cs)) := by
  have h1 := size_str s
  have h2 := size_str cs
  refine (Any.strings_Trim_laid Tryd.lays160 (by kernel_rfl) ⟨s.toArray⟩ ⟨cs.toArray⟩ w (by omega) (by omega) (ascii_of_all (l := cs) ha)).mono fun e w' ⟨h3, h4⟩ => ⟨h3, h4⟩
theorem dd_len : ∀ k n : Nat, n < 10 ^ (k + 1) → (Lib.decDigits n).length ≤ k + 1
  | 0, n, h => by
    rw [digits_lt (by omega)]; simp
  | k + 1, n, h => by
    by_cases h1 : n < 10
    · rw [digits_lt h1]; simp
    · rw [digits_ge h1, List.length_append]
      have := dd_len k (n / 10) (by
        rw [Nat.div_lt_iff_lt_mul (by omega)]
        rw [Nat.pow_succ] at h; exact h)
      simp; omega
theorem dd_step {N u : Nat} {l : List UInt8} (h : Lib.decDigits N = Lib.decDigits u ++ l) (hu : ¬ u < 10) : Lib.decDigits N = Lib.decDigits (u / 10) ++ (UInt8.ofNat (48 + u % 10) :: l) := by
  rw [h, digits_ge hu]; simp
theorem dd_last {N u : Nat} {l : List UInt8} (h : Lib.decDigits N = Lib.decDigits u ++ l) (hu : u < 10) : Lib.decDigits N = UInt8.ofNat (48 + u % 10) :: l := by
  rw [h, digits_lt hu]; rfl
theorem itoa_eq (n : Int) : Lib.itoa n = if n < 0 then 45 :: Lib.decDigits n.natAbs else Lib.decDigits n.natAbs := by
  unfold Lib.itoa
  split
  · rfl
  · congr 1; omega
theorem itoa_len {n : Int} (h : -9223372036854775808 ≤ n ∧ n ≤ 9223372036854775807) : (Lib.itoa n).length ≤ 20 := by
  have := dd_len 18 n.natAbs (by omega)
  rw [itoa_eq]
  split <;> simp <;> omega
theorem numB_none {s : List UInt8} (h : numT s = []) : numB s = none := by unfold numB; rw [if_pos h]
theorem numB_at {s : List UInt8} {v : Nat} (ht : numT s ≠ []) (hv : decV 0 (numT s) = some v) : numB s = if minusB s then (if v ≤ two63 then some (-(v : Int)) else none) else if v < two63 then some (v : Int) else none := by
  unfold numB; rw [if_neg ht, hv]; rfl
theorem numRes_none {s : List UInt8} (h : numB s = none) : numRes s = .tuple #[.int .i64 0, .bool false] := by unfold numRes; rw [h]; rfl
theorem numRes_some {s : List UInt8} {n : Int} (h : numB s = some n) : numRes s = .tuple #[.int .i64 n, .bool true] := by unfold numRes; rw [h]; rfl
theorem digit_not (c : UInt8) : (decide ((c.toNat : Int) < 48) || decide (57 < (c.toNat : Int))) = !digitB' c := by
  unfold digitB'
  by_cases h2 : (c.toNat : Int) < 48 <;> by_cases h3 : 57 < (c.toNat : Int) <;> simp [h2, h3] <;> omega
set_option maxRecDepth 10000 in
theorem decimal_pure (n : Int) (w : World) (h : -9223372036854775808 ≤ n ∧ n ≤ 9223372036854775807) (hG : GW w) : Pure Tryd.prog 11 [.int .i64 n] w (str (Lib.itoa n)) := by
  refine enter Tryd.func11 rfl Tryd.ntmps11 rfl (St.start w (look w) (Le.refl _)) ?_
  refine t_seq ?_
  refine t_region ?_
  refine l_q rfl rfl rfl (q_assign rfl rfl) ?_
  refine l_nil ?_
  refine n_then ?_
  refine t_seq ?_
  refine t_region ?_
  refine l_q rfl rfl rfl (q_move rfl rfl) ?_
  refine l_q rfl rfl rfl (quiet_call rfl rfl rfl Tryd.func26 (by kernel_rfl) rfl ((fun w hw => fmt_pure n w h (hG.le hw.le)))) ?_
  refine l_q rfl rfl rfl (q_assign rfl rfl) ?_
  refine l_nil ?_
  refine n_then ?_
  refine t_ret ?_
  refine n_ret1 rfl rfl (fun w' hw => ?_)
  -- leaf 0
  exact ⟨rfl, hw.below⟩
set_option maxRecDepth 10000 in
theorem number_pure (s : List UInt8) (w : World) (hs : s.length ≤ 281474976710656) (hG : GW w) : Pure Tryd.prog 12 [str s] w (numRes s) := by
  refine enter Tryd.func12 rfl Tryd.ntmps12 rfl (St.start w (look w) (Le.refl _)) ?_
  refine t_seq ?_
  refine t_region ?_
  refine l_q rfl rfl rfl (q_assign rfl rfl) ?_
  refine l_q rfl rfl rfl (q_assign rfl rfl) ?_
  refine l_nil ?_
  refine n_then ?_
  refine t_seq ?_
  refine t_seq ?_
  refine t_region ?_
  refine l_q rfl rfl rfl (q_move rfl rfl) ?_
  refine l_q rfl rfl rfl (quiet_call rfl rfl rfl Tryd.func27 (by kernel_rfl) rfl ((fun w _ => trim_pure s numSet w (by omega) (by decide) (by decide)))) ?_
  refine l_q rfl rfl rfl (q_neq_str rfl rfl rfl) ?_
  refine l_nil ?_
  refine n_then ?_
  refine t_cond rfl (fun hc0 => ?_) (fun hc0 => ?_)
  · skip
    refine t_seq ?_
    refine t_region ?_
    refine l_q rfl rfl rfl (q_assign rfl rfl) ?_
    refine l_q rfl rfl rfl (q_assign rfl rfl) ?_
    refine l_nil ?_
    refine n_then ?_
    refine t_ret ?_
    refine n_ret_then ?_
    refine n_ret2 rfl rfl rfl (fun w' hw => ?_)
    -- leaf 0
    refine ⟨?_, hw.below⟩
    rw [numRes_none (numB_trim (of_decide_eq_true hc0))]
  · skip
    refine t_skip ?_
    refine n_then ?_
    refine t_seq ?_
    refine t_region ?_
    refine l_q rfl rfl rfl (q_move rfl rfl) ?_
    refine l_e rfl rfl rfl (eff_callX rfl rfl rfl Tryd.func28 (by kernel_rfl) rfl (fun w hw => parse_X s w hs (hG.le hw.le))) ?_
    rintro _ _ _ ⟨⟨pn, pe, rfl, hpe, hpm⟩, rfl, rfl⟩
    refine l_q rfl rfl rfl (q_move rfl rfl) ?_
    refine l_q rfl rfl rfl (q_extract rfl rfl rfl) ?_
    refine l_q rfl rfl rfl (q_extract rfl rfl rfl) ?_
    refine l_q rfl rfl rfl (q_assign rfl rfl) ?_
    refine l_q rfl rfl rfl (q_assign rfl rfl) ?_
    refine l_nil ?_
    refine n_then ?_
    refine t_seq ?_
    refine t_seq ?_
    refine t_region ?_
    refine l_q rfl rfl rfl (q_move rfl rfl) ?_
    refine l_q rfl rfl rfl (q_neq_inil rfl (by kernel_rfl) rfl (by assumption)) ?_
    refine l_nil ?_
    refine n_then ?_
    refine t_cond rfl (fun hc1 => ?_) (fun hc1 => ?_)
    · skip
      refine t_seq ?_
      refine t_region ?_
      refine l_q rfl rfl rfl (q_assign rfl rfl) ?_
      refine l_q rfl rfl rfl (q_assign rfl rfl) ?_
      refine l_nil ?_
      refine n_then ?_
      refine t_ret ?_
      refine n_ret_then ?_
      refine n_ret2 rfl rfl rfl (fun w' hw => ?_)
      -- leaf 1
      refine ⟨?_, hw.below⟩
      rw [numRes_none (Option.isNone_iff_eq_none.1 hc1)]
    · skip
      refine t_skip ?_
      refine n_then ?_
      refine t_seq ?_
      refine t_region ?_
      refine l_q rfl rfl rfl (q_move rfl rfl) ?_
      refine l_q rfl rfl rfl (q_assign rfl rfl) ?_
      refine l_q rfl rfl rfl (q_assign rfl rfl) ?_
      refine l_nil ?_
      refine n_then ?_
      refine t_ret ?_
      refine n_ret2 rfl rfl rfl (fun w' hw => ?_)
      -- leaf 2
      refine ⟨?_, hw.below⟩
      cases hn : numB s with
      | none => rw [hn] at hc1; cases hc1
      | some m => rw [numRes_some hn, hpm m hn]; rfl
set_option maxRecDepth 10000 in
theorem rdecimal_pure (n : Int) (w : World) (h : -9223372036854775808 ≤ n ∧ n ≤ 9223372036854775807) : Pure Tryd.prog 14 [.int .i64 n] w (str (Lib.itoa n)) := by
  have hdl := dd_len 18 n.natAbs (by omega)
  refine enter Tryd.func14 rfl Tryd.ntmps14 rfl (St.start w (look w) (Le.refl _)) ?_
  refine t_seq ?_
  refine t_region ?_
  refine l_q rfl rfl rfl (q_assign rfl rfl) ?_
  refine l_nil ?_
  refine n_then ?_
  refine t_seq ?_
  refine t_region ?_
  refine l_q rfl rfl rfl (q_move rfl rfl) ?_
  refine l_q rfl rfl rfl (q_assign rfl rfl) ?_
  refine l_nil ?_
  refine n_then ?_
  refine t_cutE (ι := Nat) (fun zz => zz = n.natAbs) (fun zz => [(3, .int .i64 (-(zz : Int)))]) [(0, _), (2, _)] (fun zz => look w) (fun zz => []) (sub_cons rfl (sub_cons rfl sub_nil)) ?_ ?_
  · skip
    refine t_seq ?_
    refine t_region ?_
    refine l_q rfl rfl rfl (q_move rfl rfl) ?_
    refine l_q rfl rfl rfl (q_gtr rfl rfl rfl) ?_
    refine l_nil ?_
    refine n_then ?_
    refine t_cond rfl (fun hc0 => ?_) (fun hc0 => ?_)
    · skip
      try simp at hc0
      refine t_region ?_
      refine l_q rfl rfl rfl (q_move rfl rfl) ?_
      refine l_q rfl rfl rfl (q_neg64 rfl rfl (by omega)) ?_
      refine l_q rfl rfl rfl (q_assign rfl rfl) ?_
      refine l_nil ?_
      refine n_cut (n.natAbs) ?_ (sub_cons' rfl (congrArg (Value.int IntKind.i64) (by omega)) (sub_nil)) (sub_cons rfl (sub_cons rfl sub_nil)) (fun _ h => by try dsimp only; exact subC_st h)
      · try dsimp only
        all_goals rfl
    · skip
      try simp at hc0
      refine t_skip ?_
      refine n_cut (n.natAbs) ?_ (sub_cons' rfl (congrArg (Value.int IntKind.i64) (by omega)) (sub_nil)) (sub_cons rfl (sub_cons rfl sub_nil)) (fun _ h => by try dsimp only; exact subC_st h)
      · try dsimp only
        all_goals rfl
  rintro u hu0
  try dsimp only at *
  refine t_seq ?_
  refine t_region ?_
  refine l_q rfl rfl rfl (q_assign rfl rfl) ?_
  refine l_nil ?_
  refine n_then ?_
  refine t_seq ?_
  refine t_block ?_
  refine t_loopE (ι := Nat × List UInt8 × Value × Look) (fun zz => Le (look w) zz.2.2.2 ∧ Lib.decDigits n.natAbs = Lib.decDigits zz.1 ++ zz.2.1 ∧ zz.1 ≤ 9223372036854775808) (fun zz => zz.1) (fun zz => [(3, .int .i64 (-(zz.1 : Int))), (4, zz.2.2.1)]) [(0, _), (2, _)] (fun zz => zz.2.2.2) (fun zz => [tvec 5 1 byC zz.2.2.1 zz.2.1]) (u, [], .slice none 0 0, look w) ?_ (sub_cons rfl (sub_cons rfl sub_nil)) (sub_cons rfl (sub_cons rfl sub_nil)) (fun _ h => st_nilT 5 1 byC h) ?_
  · try dsimp only
    subst hu0; exact ⟨Le.refl _, by simp, by omega⟩
  rintro ⟨u, l, v, J⟩ ⟨hJ, hdd, hub⟩
  try dsimp only at *
  have hll : l.length ≤ 19 := by have := congrArg List.length hdd; rw [List.length_append] at this; omega
  refine t_block ?_
  refine t_seq ?_
  refine t_freezeT (f := byC) (l := l) v (fun _ => rfl) (fun J1 hJ1 hv => ?_)
  refine t_region ?_
  refine l_q rfl rfl rfl (q_move rfl rfl) ?_
  refine l_q rfl rfl rfl (q_rem rfl rfl rfl (by decide)) ?_
  refine l_q rfl rfl rfl (q_sub64 rfl rfl rfl (by rw [tmod_neg]; omega)) ?_
  refine l_q rfl rfl rfl (q_conv_u8 (48 + u % 10) rfl Tryd.underlying2 Tryd.underlying5 rfl (by rw [tmod_neg]; omega)) ?_
  refine l_e rfl rfl rfl (e_buildSlice1 rfl Tryd.underlying30 ti5 rfl rfl rfl (by first | exact One.cells (by assumption) | rfl) rfl) ?_
  rintro _ _ _ ⟨b14, rfl, rfl, rfl⟩
  refine l_heap (H' := tvec 5 1 byC (.slice (some ⟨b14, 0, none⟩) 1 1) [UInt8.ofNat (48 + u % 10)] :: _) ?_ (fun _ h => st_rowVec h rfl (by decide))
  refine l_q rfl rfl rfl (q_move rfl rfl) ?_
  refine l_e rfl rfl rfl (e_appendSl (f := byC) (l := [UInt8.ofNat (48 + u % 10)]) rfl Tryd.underlying30 ti5 rfl rfl rfl rfl (hv) rfl (fun _ => rfl) byC_ones (by simp only [maxLen, List.length_cons, List.length_nil]; omega) (by simp only [List.length_cons, List.length_nil]; omega)) ?_
  rintro v16 _ _ ⟨rfl, rfl⟩
  refine l_q rfl rfl rfl (q_assign rfl rfl) ?_
  refine l_nil ?_
  refine n_then ?_
  refine t_seq ?_
  refine t_region ?_
  refine l_q rfl rfl rfl (q_move rfl rfl) ?_
  refine l_q rfl rfl rfl (q_quo64 rfl rfl rfl (by decide) (by rw [tdiv_neg]; omega)) ?_
  refine l_q rfl rfl rfl (q_assign rfl rfl) ?_
  refine l_nil ?_
  refine n_then ?_
  refine t_seq ?_
  refine t_region ?_
  refine l_q rfl rfl rfl (q_move rfl rfl) ?_
  refine l_q rfl rfl rfl (q_eql rfl rfl rfl) ?_
  refine l_nil ?_
  refine n_then ?_
  refine t_cond rfl (fun hc1 => ?_) (fun hc1 => ?_)
  · skip
    have hu10 : u < 10 := by have := of_decide_eq_true hc1; rw [tdiv_neg] at this; omega
    have hdl2 := dd_last hdd hu10
    refine t_exit ?_
    refine n_exit_other rfl ?_
    refine n_exit_then ?_
    refine n_exit_block ?_
    refine n_then ?_
    refine t_seq ?_
    refine t_seq ?_
    refine t_region ?_
    refine l_q rfl rfl rfl (q_move rfl rfl) ?_
    refine l_q rfl rfl rfl (q_lss rfl rfl rfl) ?_
    refine l_nil ?_
    refine n_then ?_
    refine t_cond rfl (fun hc2 => ?_) (fun hc2 => ?_)
    · skip
      try simp at hc2
      refine t_seq ?_
      refine t_region ?_
      refine l_q rfl rfl rfl (q_move rfl rfl) ?_
      refine l_q rfl rfl rfl (q_bytes_str rfl Tryd.underlying30 Tryd.underlying9 Tryd.underlying5 rfl) ?_
      refine l_q rfl rfl rfl (q_cat rfl rfl rfl (by first | omega | (simp only [List.length_append, List.length_cons, List.length_nil, List.length_take, List.length_drop]; omega))) ?_
      refine l_q rfl rfl rfl (q_assign rfl rfl) ?_
      refine l_nil ?_
      refine n_then ?_
      refine t_ret ?_
      refine n_ret_then ?_
      refine n_ret1 rfl rfl (fun w' hw => ?_)
      -- leaf 0
      refine ⟨?_, (hw.less (hJ.trans hJ1)).below⟩
      rw [itoa_eq, if_pos (by omega), hdl2]; rfl
    · skip
      try simp at hc2
      refine t_skip ?_
      refine n_then ?_
      refine t_seq ?_
      refine t_region ?_
      refine l_q rfl rfl rfl (q_move rfl rfl) ?_
      refine l_q rfl rfl rfl (q_bytes_str rfl Tryd.underlying30 Tryd.underlying9 Tryd.underlying5 rfl) ?_
      refine l_q rfl rfl rfl (q_assign rfl rfl) ?_
      refine l_nil ?_
      refine n_then ?_
      refine t_ret ?_
      refine n_ret1 rfl rfl (fun w' hw => ?_)
      -- leaf 1
      refine ⟨?_, (hw.less (hJ.trans hJ1)).below⟩
      rw [itoa_eq, if_neg (by omega), hdl2]; rfl
  · skip
    have hu10 : ¬ u < 10 := by have := of_decide_eq_false hc1; rw [tdiv_neg] at this; omega
    refine t_skip ?_
    refine n_block ?_
    refine n_roundE ((u / 10, [UInt8.ofNat (48 + u % 10)] ++ l, v16, J1)) ?_ ?_ (sub_cons' rfl (congrArg (Value.int IntKind.i64) (tdiv_neg u)) (sub_cons rfl sub_nil)) (sub_cons rfl (sub_cons rfl sub_nil)) (fun _ h => by try dsimp only; exact subC_st h)
    · try dsimp only
      exact ⟨hJ.trans hJ1, dd_step hdd hu10, by omega⟩
    · try dsimp only
      show u / 10 < u; omega
set_option maxRecDepth 10000 in
theorem rnumber_pure (s : List UInt8) (w : World) (hs : s.length ≤ 4611686018427387904) : Pure Tryd.prog 13 [str s] w (numRes s) := by
  refine enter Tryd.func13 rfl Tryd.ntmps13 rfl (St.start w (look w) (Le.refl _)) ?_
  refine t_seq ?_
  refine t_region ?_
  refine l_q rfl rfl rfl (q_assign rfl rfl) ?_
  refine l_q rfl rfl rfl (q_assign rfl rfl) ?_
  refine l_nil ?_
  refine n_then ?_
  refine t_seq ?_
  refine t_region ?_
  refine l_q rfl rfl rfl (q_assign rfl rfl) ?_
  refine l_nil ?_
  refine n_then ?_
  refine t_seq ?_
  refine t_region ?_
  refine l_q rfl rfl rfl (q_move rfl rfl) ?_
  refine l_q rfl rfl rfl (q_assign rfl rfl) ?_
  refine l_nil ?_
  refine n_then ?_
  refine t_cutE (ι := Bool × List UInt8) (fun zz => zz.1 = minusB s ∧ zz.2 = numT s ∧ zz.2.length ≤ s.length) (fun zz => [(4, .bool zz.1), (5, str zz.2)]) [(0, _), (2, _), (3, _)] (fun zz => look w) (fun zz => []) (sub_cons rfl (sub_cons rfl (sub_cons rfl sub_nil))) ?_ ?_
  · skip
    refine t_seq ?_
    refine t_qreg ?_
    refine s_q rfl rfl rfl (q_move rfl rfl) ?_
    refine s_q rfl rfl rfl (q_neq_str rfl rfl rfl) ?_
    refine s_q rfl rfl rfl (q_move rfl rfl) ?_
    refine s_and2 8 2 13 22 21 _ _ rfl rfl rfl rfl rfl rfl (fun h22 => by
        try simp at h22
        have hs0 : 0 < s.length := List.length_pos_iff.2 (by simpa using h22)
        refine s_g rfl rfl rfl rfl rfl rfl (q_move rfl rfl) ?_
        refine s_g rfl rfl rfl rfl rfl rfl ((by first | exact q_index_strN rfl Tryd.underlying9 rfl rfl (by omega) | exact q_index_str rfl Tryd.underlying9 rfl rfl (by omega))) ?_
        refine s_g rfl rfl rfl rfl rfl rfl (q_eql_u8c rfl rfl rfl rfl) ?_
        refine s_g rfl rfl rfl rfl rfl rfl (q_move rfl rfl) ?_
        refine s_or2 3 6 17 21 20 _ _ rfl rfl rfl rfl rfl rfl (fun h21 => by
            try simp at h21
            refine s_g rfl rfl rfl rfl rfl rfl (q_move rfl rfl) ?_
            refine s_g rfl rfl rfl rfl rfl rfl ((by first | exact q_index_strN rfl Tryd.underlying9 rfl rfl (by omega) | exact q_index_str rfl Tryd.underlying9 rfl rfl (by omega))) ?_
            refine s_g rfl rfl rfl rfl rfl rfl (q_eql_u8c rfl rfl rfl rfl) ?_
            exact s_val rfl
          ) (wanted_g rfl rfl rfl rfl) rfl rfl rfl ?_
        exact s_val rfl
      ) (wanted_n rfl) rfl rfl rfl ?_
    refine s_done ?_
    refine n_then ?_
    refine t_cond rfl (fun hc0 => ?_) (fun hc0 => ?_)
    · skip
      have hs0 : 0 < s.length := by have : signed s = true := hc0; unfold signed at this; rw [Bool.and_eq_true, decide_eq_true_eq] at this; exact List.length_pos_iff.2 this.1
      refine t_seq ?_
      refine t_region ?_
      refine l_q rfl rfl rfl (q_move rfl rfl) ?_
      refine l_q rfl rfl rfl ((by first | exact q_index_strN rfl Tryd.underlying9 rfl rfl (by omega) | exact q_index_str rfl Tryd.underlying9 rfl rfl (by omega))) ?_
      refine l_q rfl rfl rfl (q_eql_u8c rfl rfl rfl rfl) ?_
      refine l_q rfl rfl rfl (q_assign rfl rfl) ?_
      refine l_nil ?_
      refine n_then ?_
      refine t_region ?_
      refine l_q rfl rfl rfl (q_move rfl rfl) ?_
      refine l_q rfl rfl rfl (q_slice_str_from rfl Tryd.underlying9 rfl rfl (by omega)) ?_
      refine l_q rfl rfl rfl (q_assign rfl rfl) ?_
      refine l_nil ?_
      refine n_cut ((decide (nth s 0 0 = 45), s.drop 1)) ?_ (sub_cons rfl (sub_cons rfl sub_nil)) (sub_cons rfl (sub_cons rfl (sub_cons rfl sub_nil))) (fun _ h => by try dsimp only; exact subC_st h)
      · try dsimp only
        exact ⟨by unfold minusB; rw [show signed s = true from hc0, Bool.true_and], by unfold numT; rw [show signed s = true from hc0, if_pos rfl], by rw [List.length_drop]; omega⟩
    · skip
      refine t_skip ?_
      refine n_cut ((false, s)) ?_ (sub_cons rfl (sub_cons rfl sub_nil)) (sub_cons rfl (sub_cons rfl (sub_cons rfl sub_nil))) (fun _ h => by try dsimp only; exact subC_st h)
      · try dsimp only
        exact ⟨by unfold minusB; rw [show signed s = false from hc0, Bool.false_and], by unfold numT; rw [show signed s = false from hc0, if_neg (by simp)], Nat.le_refl _⟩
  rintro ⟨mi, t⟩ ⟨hmi, ht, htl⟩
  try dsimp only at *
  refine t_seq ?_
  refine t_seq ?_
  refine t_region ?_
  refine l_q rfl rfl rfl (q_move rfl rfl) ?_
  refine l_q rfl rfl rfl (q_eql_str rfl rfl rfl) ?_
  refine l_nil ?_
  refine n_then ?_
  refine t_cond rfl (fun hc1 => ?_) (fun hc1 => ?_)
  · skip
    have hc1 : t = [] := of_decide_eq_true hc1
    refine t_seq ?_
    refine t_region ?_
    refine l_q rfl rfl rfl (q_assign rfl rfl) ?_
    refine l_q rfl rfl rfl (q_assign rfl rfl) ?_
    refine l_nil ?_
    refine n_then ?_
    refine t_ret ?_
    refine n_ret_then ?_
    refine n_ret2 rfl rfl rfl (fun w' hw => ?_)
    -- leaf 0
    refine ⟨?_, hw.below⟩
    rw [numRes_none (numB_none (by rw [← ht, hc1]))]
  · skip
    have hc1 : t ≠ [] := of_decide_eq_false hc1
    refine t_skip ?_
    refine n_then ?_
    refine t_seq ?_
    refine t_region ?_
    refine l_q rfl rfl rfl (q_assign rfl rfl) ?_
    refine l_nil ?_
    refine n_then ?_
    refine t_seq ?_
    refine t_region ?_
    refine l_q rfl rfl rfl (q_assign rfl rfl) ?_
    refine l_nil ?_
    refine n_then ?_
    refine t_seq ?_
    refine t_seq ?_
    refine t_region ?_
    refine l_q rfl rfl rfl (q_assign rfl rfl) ?_
    refine l_nil ?_
    refine n_then ?_
    refine t_block ?_
    refine t_loopE (ι := Nat × Nat) (fun zz => zz.1 ≤ t.length ∧ decV 0 (t.take zz.1) = some zz.2 ∧ zz.2 ≤ 9223372036854775808) (fun zz => t.length - zz.1) (fun zz => [(8, .int .i64 (zz.1 : Int)), (7, .int .i64 (-(zz.2 : Int)))]) [(4, _), (5, _), (0, _), (29, _), (6, _)] (fun zz => look w) (fun zz => []) (0, 0) ?_ (sub_cons rfl (sub_cons rfl sub_nil)) (sub_cons rfl (sub_cons rfl (sub_cons rfl (sub_cons rfl (sub_cons rfl sub_nil))))) (fun _ h => subC_st h) ?_
    · try dsimp only
      exact ⟨Nat.zero_le _, rfl, Nat.zero_le _⟩
    rintro ⟨i, v⟩ ⟨hi, hv, hvb⟩
    try dsimp only at *
    refine t_seq ?_
    refine t_seq ?_
    refine t_region ?_
    refine l_q rfl rfl rfl (q_move rfl rfl) ?_
    refine l_q rfl rfl rfl (q_move rfl rfl) ?_
    refine l_q rfl rfl rfl (q_len_str rfl Tryd.underlying9 rfl) ?_
    refine l_q rfl rfl rfl (q_lss rfl rfl rfl) ?_
    refine l_nil ?_
    refine n_then ?_
    refine t_cond rfl (fun hc2 => ?_) (fun hc2 => ?_)
    · skip
      try simp at hc2
      refine t_skip ?_
      refine n_then ?_
      refine t_seq ?_
      refine t_block ?_
      refine t_seq ?_
      refine t_seq ?_
      refine t_qreg ?_
      refine s_q rfl rfl rfl (q_move rfl rfl) ?_
      refine s_q rfl rfl rfl (q_move rfl rfl) ?_
      refine s_q rfl rfl rfl ((by first | exact q_index_strN rfl Tryd.underlying9 rfl rfl (by omega) | exact q_index_str rfl Tryd.underlying9 rfl rfl (by omega))) ?_
      refine s_q rfl rfl rfl (q_lss rfl rfl rfl) ?_
      refine s_q rfl rfl rfl (q_move rfl rfl) ?_
      refine s_or2 4 4 40 45 44 _ _ rfl rfl rfl rfl rfl rfl (fun h45 => by
          try simp at h45
          refine s_g rfl rfl rfl rfl rfl rfl (q_move rfl rfl) ?_
          refine s_g rfl rfl rfl rfl rfl rfl (q_move rfl rfl) ?_
          refine s_g rfl rfl rfl rfl rfl rfl ((by first | exact q_index_strN rfl Tryd.underlying9 rfl rfl (by omega) | exact q_index_str rfl Tryd.underlying9 rfl rfl (by omega))) ?_
          refine s_g rfl rfl rfl rfl rfl rfl (q_gtr rfl rfl rfl) ?_
          exact s_val rfl
        ) (wanted_n rfl) rfl rfl rfl ?_
      refine s_done ?_
      refine n_then ?_
      refine t_cond rfl (fun hc3 => ?_) (fun hc3 => ?_)
      · skip
        refine t_seq ?_
        refine t_region ?_
        refine l_q rfl rfl rfl (q_assign rfl rfl) ?_
        refine l_q rfl rfl rfl (q_assign rfl rfl) ?_
        refine l_nil ?_
        refine n_then ?_
        refine t_ret ?_
        refine n_ret_then ?_
        refine n_ret_block ?_
        refine n_ret_then ?_
        refine n_ret_then ?_
        refine n_ret_block ?_
        refine n_ret_then ?_
        refine n_ret2 rfl rfl rfl (fun w' hw => ?_)
        -- leaf 1
        refine ⟨?_, hw.below⟩
        have hbd : digitB' (nth t i 0) = false := by have := digit_not (nth t i 0); rw [show _ = true from hc3] at this; simpa using this
        subst ht
        rw [numRes_none (numB_bad (i := i) (by omega) hbd)]
      · skip
        refine t_skip ?_
        refine n_then ?_
        refine t_seq ?_
        have hdg : digitB' (nth t i 0) = true := by have := digit_not (nth t i 0); rw [show _ = false from hc3] at this; simpa using this
        have hdg2 := (digit_iff _).1 hdg
        have hv2 := decV_take (t := t) (i := i) (by omega) hv
        rw [hdg, if_pos rfl] at hv2
        refine t_region ?_
        refine l_q rfl rfl rfl (q_move rfl rfl) ?_
        refine l_q rfl rfl rfl (q_move rfl rfl) ?_
        refine l_q rfl rfl rfl ((by first | exact q_index_strN rfl Tryd.underlying9 rfl rfl (by omega) | exact q_index_str rfl Tryd.underlying9 rfl rfl (by omega))) ?_
        refine l_q rfl rfl rfl (q_sub_u8 48 rfl rfl rfl (by omega)) ?_
        refine l_q rfl rfl rfl (q_conv_int (r := (((nth t i 0).toNat - 48 : Nat) : Int)) rfl Tryd.underlying5 Tryd.underlying2 rfl (IntWalk.i64_in _ (by omega))) ?_
        refine l_q rfl rfl rfl (q_assign rfl rfl) ?_
        refine l_nil ?_
        refine n_then ?_
        refine t_seq ?_
        refine t_seq ?_
        refine t_region ?_
        refine l_q rfl rfl rfl (q_move rfl rfl) ?_
        refine l_q rfl rfl rfl (q_move rfl rfl) ?_
        refine l_q rfl rfl rfl (q_move rfl rfl) ?_
        refine l_q rfl rfl rfl (q_add64 rfl rfl rfl (by omega)) ?_
        refine l_q rfl rfl rfl (q_quo64 rfl rfl rfl (by decide) (by rw [least_div _ (by omega)]; omega)) ?_
        refine l_q rfl rfl rfl (q_lss rfl rfl rfl) ?_
        refine l_nil ?_
        refine n_then ?_
        refine t_cond rfl (fun hc4 => ?_) (fun hc4 => ?_)
        · skip
          have h4 := of_decide_eq_true hc4
          rw [least_div _ (by omega)] at h4
          have h5 := numR_fail h4 (by omega)
          refine t_seq ?_
          refine t_region ?_
          refine l_q rfl rfl rfl (q_assign rfl rfl) ?_
          refine l_q rfl rfl rfl (q_assign rfl rfl) ?_
          refine l_nil ?_
          refine n_then ?_
          refine t_ret ?_
          refine n_ret_then ?_
          refine n_ret_block ?_
          refine n_ret_then ?_
          refine n_ret_then ?_
          refine n_ret_block ?_
          refine n_ret_then ?_
          refine n_ret2 rfl rfl rfl (fun w' hw => ?_)
          -- leaf 2
          refine ⟨?_, hw.below⟩
          subst ht
          rw [numRes_none (numB_big (i := i + 1) hv2 rfl h5)]
        · skip
          have h4 := of_decide_eq_false hc4
          rw [least_div _ (by omega)] at h4
          have h5 := numR_step h4 (by omega)
          refine t_skip ?_
          refine n_then ?_
          refine t_region ?_
          refine l_q rfl rfl rfl (q_move rfl rfl) ?_
          refine l_q rfl rfl rfl (q_mul64 rfl rfl rfl (by omega)) ?_
          refine l_q rfl rfl rfl (q_move rfl rfl) ?_
          refine l_q rfl rfl rfl (q_sub64 rfl rfl rfl (by omega)) ?_
          refine l_q rfl rfl rfl (q_assign rfl rfl) ?_
          refine l_nil ?_
          refine n_block ?_
          refine n_then ?_
          refine t_region ?_
          refine l_q rfl rfl rfl (q_move rfl rfl) ?_
          refine l_q rfl rfl rfl (q_add64 rfl rfl rfl (by omega)) ?_
          refine l_q rfl rfl rfl (q_assign rfl rfl) ?_
          refine l_nil ?_
          refine n_roundE ((i + 1, v * 10 + ((nth t i 0).toNat - 48))) ?_ ?_ (sub_cons rfl (sub_cons' rfl (by congr 1; omega) (sub_nil))) (sub_cons rfl (sub_cons rfl (sub_cons rfl (sub_cons rfl (sub_cons rfl sub_nil))))) (fun _ h => by try dsimp only; exact subC_st h)
          · try dsimp only
            exact ⟨by omega, hv2, by omega⟩
          · try dsimp only
            omega
    · skip
      try simp at hc2
      refine t_exit ?_
      refine n_exit_then ?_
      refine n_exit_then ?_
      refine n_exit_block ?_
      refine n_then ?_
      refine t_seq ?_
      refine t_seq ?_
      refine t_region ?_
      refine l_q rfl rfl rfl (q_move rfl rfl) ?_
      refine l_nil ?_
      refine n_then ?_
      rw [List.take_of_length_le (by omega)] at hv
      subst ht
      have hat := numB_at hc1 hv
      rw [← hmi] at hat
      refine t_cond rfl (fun hc5 => ?_) (fun hc5 => ?_)
      · skip
        rw [show mi = true from hc5, if_pos rfl, if_pos (show v ≤ two63 from hvb)] at hat
        refine t_seq ?_
        refine t_region ?_
        refine l_q rfl rfl rfl (q_move rfl rfl) ?_
        refine l_q rfl rfl rfl (q_assign rfl rfl) ?_
        refine l_q rfl rfl rfl (q_assign rfl rfl) ?_
        refine l_nil ?_
        refine n_then ?_
        refine t_ret ?_
        refine n_ret_then ?_
        refine n_ret2 rfl rfl rfl (fun w' hw => ?_)
        -- leaf 3
        refine ⟨?_, hw.below⟩
        rw [numRes_some hat]
      · skip
        rw [show mi = false from hc5, if_neg (by simp)] at hat
        refine t_skip ?_
        refine n_then ?_
        refine t_seq ?_
        refine t_seq ?_
        refine t_region ?_
        refine l_q rfl rfl rfl (q_move rfl rfl) ?_
        refine l_q rfl rfl rfl (q_move rfl rfl) ?_
        refine l_q rfl rfl rfl (q_eql rfl rfl rfl) ?_
        refine l_nil ?_
        refine n_then ?_
        refine t_cond rfl (fun hc6 => ?_) (fun hc6 => ?_)
        · skip
          have h6 := of_decide_eq_true hc6
          rw [if_neg (by unfold two63; omega)] at hat
          refine t_seq ?_
          refine t_region ?_
          refine l_q rfl rfl rfl (q_assign rfl rfl) ?_
          refine l_q rfl rfl rfl (q_assign rfl rfl) ?_
          refine l_nil ?_
          refine n_then ?_
          refine t_ret ?_
          refine n_ret_then ?_
          refine n_ret2 rfl rfl rfl (fun w' hw => ?_)
          -- leaf 4
          refine ⟨?_, hw.below⟩
          rw [numRes_none hat]
        · skip
          have h6 := of_decide_eq_false hc6
          rw [if_pos (by unfold two63; omega)] at hat
          refine t_skip ?_
          refine n_then ?_
          refine t_seq ?_
          refine t_region ?_
          refine l_q rfl rfl rfl (q_move rfl rfl) ?_
          refine l_q rfl rfl rfl (q_neg64 rfl rfl (by omega)) ?_
          refine l_q rfl rfl rfl (q_assign rfl rfl) ?_
          refine l_q rfl rfl rfl (q_assign rfl rfl) ?_
          refine l_nil ?_
          refine n_then ?_
          refine t_ret ?_
          refine n_ret2 rfl rfl rfl (fun w' hw => ?_)
          -- leaf 5
          refine ⟨?_, hw.below⟩
          rw [numRes_some hat, Int.neg_neg]
end Go.Tri
