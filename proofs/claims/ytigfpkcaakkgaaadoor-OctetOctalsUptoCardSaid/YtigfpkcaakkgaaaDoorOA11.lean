/-
  A number written in base 8.
-/
import Derived.Test.YtigfpkcaakkgaaaDoorOA10
namespace Go.Tri
open Go.Proofs Go.RowKit
/-- a number of base 8, or nothing -/
def octS (n : Int) : List UInt8 := if n < 0 then [] else octL n.toNat
set_option maxRecDepth 10000 in
theorem fbits_pure (n : Nat) (b : Bool) (hb : b = false) (w : World) (hn : n < 9223372036854775808) (hG : GO w) : Pure Tryd.prog 55 [.slice none 0 0, .int .u64 (n : Int), .int .i64 8, .bool b, .bool false] w (.tuple #[.slice none 0 0, str (octL n)]) := by
  have hbig := octL_big hn
  refine enter Tryd.func55 rfl Tryd.ntmps55 rfl (St.start w (look w) (Le.refl _)) ?_
  refine t_seq ?_
  refine t_region ?_
  refine l_q rfl rfl rfl (q_assign rfl rfl) ?_
  refine l_q rfl rfl rfl (q_assign rfl rfl) ?_
  refine l_nil ?_
  refine n_then ?_
  refine t_seq ?_
  refine t_seq ?_
  refine t_qreg ?_
  refine s_q rfl rfl rfl (q_move rfl rfl) ?_
  refine s_q rfl rfl rfl (q_lss rfl rfl rfl) ?_
  refine s_q rfl rfl rfl (q_move rfl rfl) ?_
  refine s_or2 2 2 21 24 23 _ _ rfl rfl rfl rfl rfl rfl (fun h24 => by
      try simp at h24
      refine s_g rfl rfl rfl rfl rfl rfl (q_move rfl rfl) ?_
      refine s_g rfl rfl rfl rfl rfl rfl (q_eql rfl rfl rfl) ?_
      exact s_val rfl
    ) (wanted_n rfl) rfl rfl rfl ?_
  refine s_q rfl rfl rfl (q_move rfl rfl) ?_
  refine s_or2 2 6 25 28 27 _ _ rfl rfl rfl rfl rfl rfl (fun h28 => by
      try simp at h28
      refine s_g rfl rfl rfl rfl rfl rfl (q_move rfl rfl) ?_
      refine s_g rfl rfl rfl rfl rfl rfl (q_gtr rfl rfl rfl) ?_
      exact s_val rfl
    ) (wanted_n rfl) rfl rfl rfl ?_
  refine s_done ?_
  refine n_then ?_
  refine t_cond rfl (fun hc0 => ?_) (fun hc0 => ?_)
  · skip
    try simp at hc0
  · skip
    try simp at hc0
    refine t_skip ?_
    refine n_then ?_
    refine t_seq ?_
    refine t_region ?_
    refine l_e rfl rfl rfl (e_alloc rfl ti95 rfl) ?_
    rintro _ _ _ ⟨b12, rfl, rfl, rfl⟩
    refine l_heap (H' := row b12 95 (List.replicate 65 (.int .u8 0)) :: _) ?_ (fun _ h => h)
    refine l_nil ?_
    refine n_then ?_
    refine t_seq ?_
    refine t_region ?_
    refine l_q rfl rfl rfl (q_assign rfl rfl) ?_
    refine l_nil ?_
    refine n_then ?_
    refine t_seq ?_
    refine t_seq ?_
    refine t_region ?_
    refine l_q rfl rfl rfl (q_move rfl rfl) ?_
    refine l_nil ?_
    refine n_then ?_
    refine t_cond rfl (fun hc1 => ?_) (fun hc1 => ?_)
    · skip
      rw [hb] at hc1
      cases hc1
    · skip
      refine t_skip ?_
      refine n_then ?_
      refine t_seq ?_
      refine t_seq ?_
      refine t_region ?_
      refine l_q rfl rfl rfl (q_move rfl rfl) ?_
      refine l_q rfl rfl rfl (quiet_call rfl rfl rfl Tryd.func77 (by kernel_rfl) rfl ((fun w _ => pow2_pure w))) ?_
      refine l_nil ?_
      refine n_then ?_
      refine t_cond rfl (fun hc2 => ?_) (fun hc2 => ?_)
      · skip
        refine t_seq ?_
        refine t_region ?_
        refine l_q rfl rfl rfl (q_move rfl rfl) ?_
        refine l_q rfl rfl rfl (q_convU 8 rfl Tryd.underlying3 Tryd.underlying78 rfl rfl (by decide)) ?_
        refine l_q rfl rfl rfl (quiet_call rfl rfl rfl Tryd.func78 (by kernel_rfl) rfl ((fun w hw => tz_pure w (hG.le hw.le)))) ?_
        refine l_q rfl rfl rfl (q_convU 3 rfl Tryd.underlying3 Tryd.underlying78 rfl rfl (by decide)) ?_
        refine l_q rfl rfl rfl (q_assign rfl rfl) ?_
        refine l_nil ?_
        refine n_then ?_
        refine t_seq ?_
        refine t_region ?_
        refine l_q rfl rfl rfl (q_move rfl rfl) ?_
        refine l_q rfl rfl rfl (q_convU 8 rfl Tryd.underlying3 Tryd.underlying68 rfl rfl (by decide)) ?_
        refine l_q rfl rfl rfl (q_assign rfl rfl) ?_
        refine l_nil ?_
        refine n_then ?_
        refine t_seq ?_
        refine t_region ?_
        refine l_q rfl rfl rfl (q_move rfl rfl) ?_
        refine l_q rfl rfl rfl (q_convU 8 rfl Tryd.underlying3 Tryd.underlying78 rfl rfl (by decide)) ?_
        refine l_q rfl rfl rfl (q_subU 8 1 rfl rfl rfl (by decide) (by decide)) ?_
        refine l_q rfl rfl rfl (q_assign rfl rfl) ?_
        refine l_nil ?_
        refine n_then ?_
        refine t_seq ?_
        refine t_block ?_
        refine t_loopE (ι := Nat × Nat × List Value × List UInt8) (fun zz => zz.1 ≤ n ∧ octL n = octL zz.1 ++ zz.2.2.2 ∧ Dg zz.2.2.1 zz.2.1 zz.2.2.2) (fun zz => zz.1) (fun zz => [(1, .int .u64 (zz.1 : Int)), (13, .int .i64 (zz.2.1 : Int))]) [(0, _), (2, _), (3, _), (4, _), (10, _), (11, _), (28, _), (12, _), (30, _), (34, _), (14, _), (15, _), (16, _)] (fun zz => look w) (fun zz => [row b12 95 zz.2.2.1]) (n, 65, List.replicate 65 (.int .u8 0), []) ?_ (sub_cons rfl (sub_cons rfl sub_nil)) (sub_cons rfl (sub_cons rfl (sub_cons rfl (sub_cons rfl (sub_cons rfl (sub_cons rfl (sub_cons rfl (sub_cons rfl (sub_cons rfl (sub_cons rfl (sub_cons rfl (sub_cons rfl (sub_cons rfl sub_nil))))))))))))) (fun _ h => subC_st h) ?_
        · try dsimp only
          exact ⟨Nat.le_refl _, by rw [List.append_nil], rfl, rfl, fun j hj => absurd hj (Nat.not_lt_zero _)⟩
        rintro ⟨u, i, cs, ds⟩ ⟨hu, ho, hD⟩
        try dsimp only at *
        have hol := congrArg List.length ho
        rw [List.length_append] at hol
        have hul := List.length_pos_iff.2 (octL_ne u)
        have hDl := hD.2.1
        have hDc := hD.1
        refine t_seq ?_
        refine t_seq ?_
        refine t_region ?_
        refine l_q rfl rfl rfl (q_move rfl rfl) ?_
        refine l_q rfl rfl rfl (q_move rfl rfl) ?_
        refine l_q rfl rfl rfl (q_geq rfl rfl rfl) ?_
        refine l_nil ?_
        refine n_then ?_
        refine t_cond rfl (fun hc3 => ?_) (fun hc3 => ?_)
        · skip
          try simp at hc3
          refine t_skip ?_
          refine n_then ?_
          refine t_block ?_
          refine t_seq ?_
          refine t_region ?_
          refine l_q rfl rfl rfl (q_move rfl rfl) ?_
          refine l_q rfl rfl rfl (q_sub64 rfl rfl rfl (by omega)) ?_
          refine l_q rfl rfl rfl (q_assign rfl rfl) ?_
          refine l_nil ?_
          refine n_then ?_
          refine t_seq ?_
          refine t_region ?_
          refine l_q rfl rfl rfl (q_move rfl rfl) ?_
          refine l_q rfl rfl rfl (q_move rfl rfl) ?_
          refine l_q rfl rfl rfl (q_move rfl rfl) ?_
          refine l_q rfl rfl rfl (q_andU u 7 (u % 8) rfl rfl rfl (by omega) (by decide) (Nat.and_two_pow_sub_one_eq_mod u 3)) ?_
          refine l_q rfl rfl rfl (q_index_strN (j := u % 8) rfl Tryd.underlying9 rfl rfl (by show _ < 36; omega)) ?_
          refine l_q rfl rfl rfl (q_indexAddr_arr rfl Tryd.underlying95 ti5 rfl rfl (by omega)) ?_
          refine l_e0 rfl rfl (e_storeR rfl ti5 rfl rfl ⟨rfl, rfl⟩ (by rw [hDc]; omega)) ?_
          rintro _ _ _ ⟨rfl, rfl⟩
          refine l_heap (H' := row b12 95 (cs.set (i - 1) (u8 (UInt8.ofNat (48 + u % 8)))) :: _) ?_ (fun _ h => by rw [show 0 + ((i : Int) - 1).toNat * 1 = i - 1 by omega, dig8 (show u % 8 < 8 by omega)] at h; exact h)
          refine l_nil ?_
          refine n_then ?_
          refine t_region ?_
          refine l_q rfl rfl rfl (q_move rfl rfl) ?_
          refine l_q rfl rfl rfl (q_move rfl rfl) ?_
          refine l_q rfl rfl rfl (q_shrU u 3 rfl rfl rfl (by decide)) ?_
          refine l_q rfl rfl rfl (q_assign rfl rfl) ?_
          refine l_nil ?_
          refine n_block ?_
          refine n_roundE ((u / 8, i - 1, cs.set (i - 1) (u8 (UInt8.ofNat (48 + u % 8))), UInt8.ofNat (48 + u % 8) :: ds)) ?_ ?_ (sub_cons rfl (sub_cons' rfl (congrArg (Value.int IntKind.i64) (by show (i : Int) - 1 = ((i - 1 : Nat) : Int); omega)) (sub_nil))) (sub_cons rfl (sub_cons rfl (sub_cons rfl (sub_cons rfl (sub_cons rfl (sub_cons rfl (sub_cons rfl (sub_cons rfl (sub_cons rfl (sub_cons rfl (sub_cons rfl (sub_cons rfl (sub_cons rfl sub_nil))))))))))))) (fun _ h => by try dsimp only; exact subC_st h)
          · try dsimp only
            refine ⟨by omega, ?_, hD.put (by omega) _⟩
            rw [ho, octL_step (by omega), List.append_assoc]; rfl
          · try dsimp only
            show u / 8 < u
            omega
        · skip
          try simp at hc3
          refine t_exit ?_
          refine n_exit_then ?_
          refine n_exit_then ?_
          refine n_exit_block ?_
          refine n_then ?_
          refine t_seq ?_
          refine t_region ?_
          refine l_q rfl rfl rfl (q_move rfl rfl) ?_
          refine l_q rfl rfl rfl (q_sub64 rfl rfl rfl (by omega)) ?_
          refine l_q rfl rfl rfl (q_assign rfl rfl) ?_
          refine l_nil ?_
          refine n_then ?_
          refine t_region ?_
          refine l_q rfl rfl rfl (q_move rfl rfl) ?_
          refine l_q rfl rfl rfl (q_move rfl rfl) ?_
          refine l_q rfl rfl rfl (q_index_strN (j := u) rfl Tryd.underlying9 rfl rfl (by show _ < 36; omega)) ?_
          refine l_q rfl rfl rfl (q_indexAddr_arr rfl Tryd.underlying95 ti5 rfl rfl (by omega)) ?_
          refine l_e0 rfl rfl (e_storeR rfl ti5 rfl rfl ⟨rfl, rfl⟩ (by rw [hDc]; omega)) ?_
          rintro _ _ _ ⟨rfl, rfl⟩
          refine l_heap (H' := row b12 95 (cs.set (i - 1) (u8 (UInt8.ofNat (48 + u)))) :: _) ?_ (fun _ h => by rw [show 0 + ((i : Int) - 1).toNat * 1 = i - 1 by omega, dig8 (show u < 8 by omega)] at h; exact h)
          refine l_nil ?_
          refine n_then ?_
          refine t_seq ?_
          refine t_seq ?_
          refine t_region ?_
          refine l_q rfl rfl rfl (q_move rfl rfl) ?_
          refine l_nil ?_
          refine n_then ?_
          refine t_cond rfl (fun hc4 => ?_) (fun hc4 => ?_)
          · skip
            rw [hb] at hc4
            cases hc4
          · skip
            refine t_skip ?_
            refine n_then ?_
            refine t_seq ?_
            refine t_seq ?_
            refine t_region ?_
            refine l_q rfl rfl rfl (q_move rfl rfl) ?_
            refine l_nil ?_
            refine n_then ?_
            refine t_cond rfl (fun hc5 => ?_) (fun hc5 => ?_)
            · skip
              cases hc5
            · skip
              refine t_skip ?_
              refine n_then ?_
              refine t_seq ?_
              have hon : octL n = UInt8.ofNat (48 + u) :: ds := by rw [ho, octL_small (by omega)]; rfl
              have hD2 := hD.put (by omega) (UInt8.ofNat (48 + u))
              have hel : (octL n).length = 65 - ((i : Int) - 1).toNat := by rw [hon, List.length_cons]; omega
              have hcell : ∀ j, j < (octL n).length → (cs.set (i - 1) (u8 (UInt8.ofNat (48 + u))))[((i : Int) - 1).toNat * 1 + j]? = some (u8 (nth (octL n) j 0)) := fun j hj => by
                rw [hon] at hj ⊢
                rw [show ((i : Int) - 1).toNat * 1 = i - 1 by omega]
                exact hD2.2.2 j hj
              refine t_region ?_
              refine l_q rfl rfl rfl (q_move rfl rfl) ?_
              refine l_q rfl rfl rfl (q_slice_arr_from rfl Tryd.underlying95 ti5 rfl rfl (by omega)) ?_
              refine l_q rfl rfl rfl (q_bytes_row (l := octL n) rfl Tryd.underlying30 Tryd.underlying9 Tryd.underlying5 (by rw [hel]; rfl) hcell) ?_
              refine l_q rfl rfl rfl (q_assign rfl rfl) ?_
              refine l_nil ?_
              refine n_then ?_
              refine t_ret ?_
              refine n_ret2 rfl rfl rfl (fun w' hw => ?_)
              -- leaf 0
              exact ⟨rfl, hw.below⟩
      · skip
        cases hc2
set_option maxRecDepth 10000 in
theorem fmt8i_pure (n : Nat) (w : World) (hn : n < 9223372036854775808) (hG : GO w) : Pure Tryd.prog 38 [.int .i64 (n : Int), .int .i64 8] w (str (octL n)) := by
  refine enter Tryd.func38 rfl Tryd.ntmps38 rfl (St.start w (look w) (Le.refl _)) ?_
  refine t_seq ?_
  refine t_region ?_
  refine l_q rfl rfl rfl (q_assign rfl rfl) ?_
  refine l_nil ?_
  refine n_then ?_
  refine t_seq ?_
  refine t_seq ?_
  refine t_region ?_
  refine l_q rfl rfl rfl (q_move rfl rfl) ?_
  refine l_q rfl rfl rfl (q_eql rfl rfl rfl) ?_
  refine l_nil ?_
  refine n_then ?_
  refine t_cond rfl (fun hc0 => ?_) (fun hc0 => ?_)
  · skip
    exact absurd hc0 (by decide)
  · skip
    refine t_skip ?_
    refine n_then ?_
    refine t_seq ?_
    refine t_region ?_
    refine l_q rfl rfl rfl (q_move rfl rfl) ?_
    refine l_q rfl rfl rfl (q_convU n rfl Tryd.underlying2 Tryd.underlying68 rfl rfl (by omega)) ?_
    refine l_q rfl rfl rfl (q_move rfl rfl) ?_
    refine l_q rfl rfl rfl (q_move rfl rfl) ?_
    refine l_q rfl rfl rfl (q_lss rfl rfl rfl) ?_
    refine l_q rfl rfl rfl (quiet_call rfl rfl rfl Tryd.func55 (by kernel_rfl) rfl ((fun w hw => fbits_pure n (decide ((n : Int) < 0)) (decide_eq_false (by omega)) w hn (hG.le hw.le)))) ?_
    refine l_q rfl rfl rfl (q_move rfl rfl) ?_
    refine l_q rfl rfl rfl (q_extract rfl rfl rfl) ?_
    refine l_q rfl rfl rfl (q_extract rfl rfl rfl) ?_
    refine l_q rfl rfl rfl (q_assign rfl rfl) ?_
    refine l_q rfl rfl rfl (q_assign rfl rfl) ?_
    refine l_nil ?_
    refine n_then ?_
    refine t_seq ?_
    refine t_region ?_
    refine l_q rfl rfl rfl (q_move rfl rfl) ?_
    refine l_q rfl rfl rfl (q_assign rfl rfl) ?_
    refine l_nil ?_
    refine n_then ?_
    refine t_ret ?_
    refine n_ret1 rfl rfl (fun w' hw => ?_)
    -- leaf 0
    exact ⟨rfl, hw.below⟩
set_option maxRecDepth 10000 in
theorem fmt8_pure (n : Nat) (w : World) (hn : n < 9223372036854775808) (hG : GO w) : Pure Tryd.prog 26 [.int .i64 (n : Int), .int .i64 8] w (str (octL n)) := by
  refine enter Tryd.func26 rfl Tryd.ntmps26 rfl (St.start w (look w) (Le.refl _)) ?_
  refine t_seq ?_
  refine t_region ?_
  refine l_q rfl rfl rfl (q_assign rfl rfl) ?_
  refine l_nil ?_
  refine n_then ?_
  refine t_seq ?_
  refine t_region ?_
  refine l_q rfl rfl rfl (q_move rfl rfl) ?_
  refine l_q rfl rfl rfl (q_move rfl rfl) ?_
  refine l_q rfl rfl rfl (quiet_call rfl rfl rfl Tryd.func38 (by kernel_rfl) rfl ((fun w hw => fmt8i_pure n w hn (hG.le hw.le)))) ?_
  refine l_q rfl rfl rfl (q_assign rfl rfl) ?_
  refine l_nil ?_
  refine n_then ?_
  refine t_ret ?_
  refine n_ret1 rfl rfl (fun w' hw => ?_)
  -- leaf 0
  exact ⟨rfl, hw.below⟩
set_option maxRecDepth 10000 in
theorem octal_pure (n : Int) (w : World) (hn : n ≤ 9223372036854775807) (hG : GO w) : Pure Tryd.prog 19 [.int .i64 n] w (str (octS n)) := by
  refine enter Tryd.func19 rfl Tryd.ntmps19 rfl (St.start w (look w) (Le.refl _)) ?_
  refine t_seq ?_
  refine t_region ?_
  refine l_q rfl rfl rfl (q_assign rfl rfl) ?_
  refine l_nil ?_
  refine n_then ?_
  refine t_seq ?_
  refine t_seq ?_
  refine t_region ?_
  refine l_q rfl rfl rfl (q_move rfl rfl) ?_
  refine l_q rfl rfl rfl (q_lss rfl rfl rfl) ?_
  refine l_nil ?_
  refine n_then ?_
  refine t_cond rfl (fun hc0 => ?_) (fun hc0 => ?_)
  · skip
    try simp at hc0
    refine t_seq ?_
    refine t_region ?_
    refine l_q rfl rfl rfl (q_assign rfl rfl) ?_
    refine l_nil ?_
    refine n_then ?_
    refine t_ret ?_
    refine n_ret_then ?_
    refine n_ret1 rfl rfl (fun w' hw => ?_)
    -- leaf 0
    refine ⟨?_, hw.below⟩
    rw [octS, if_pos (by omega)]; rfl
  · skip
    try simp at hc0
    obtain ⟨m, rfl⟩ : ∃ m : Nat, n = m := ⟨n.toNat, by omega⟩
    refine t_skip ?_
    refine n_then ?_
    refine t_seq ?_
    refine t_region ?_
    refine l_q rfl rfl rfl (q_move rfl rfl) ?_
    refine l_q rfl rfl rfl (quiet_call rfl rfl rfl Tryd.func26 (by kernel_rfl) rfl ((fun w hw => fmt8_pure m w (by omega) (hG.le hw.le)))) ?_
    refine l_q rfl rfl rfl (q_assign rfl rfl) ?_
    refine l_nil ?_
    refine n_then ?_
    refine t_ret ?_
    refine n_ret1 rfl rfl (fun w' hw => ?_)
    -- leaf 1
    refine ⟨?_, hw.below⟩
    rw [octS, if_neg (by omega), Int.toNat_natCast]
end Go.Tri
