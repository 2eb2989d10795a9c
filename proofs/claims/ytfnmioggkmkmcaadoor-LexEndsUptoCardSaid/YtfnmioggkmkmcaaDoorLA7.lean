/-
  Bytes sought in a text.
-/
import Derived.Test.YtfnmioggkmkmcaaDoorLA6
import Derived.Lib.IndexAny
namespace Go.Tri
open Go.Proofs Go.RowKit
theorem indexAny_any (s c : List UInt8) : decide (0 ≤ Lib.indexAny s c) = anyOf s c := by
  unfold anyOf
  have hcon : ∀ b, c.contains b = hasB c b := fun b => by
    unfold hasB
    rw [List.contains_eq_any_beq]
    congr 1; funext d
    exact Bool.beq_comm
  induction s with
  | nil => rfl
  | cons b s ih =>
    have hge := Lib.indexAny_ge c s
    rw [List.any_cons, ← ih, ← hcon, Lib.indexAny]
    cases hx : c.contains b with
    | true => simp
    | false =>
      rw [if_neg (by simp), Bool.false_or]
      split
      · rename_i h1
        have : Lib.indexAny s c = -1 := by simpa using h1
        rw [this]
      · rename_i h1
        have h2 : ¬ Lib.indexAny s c = -1 := by simpa using h1
        have h3 : 0 ≤ Lib.indexAny s c := by omega
        rw [decide_eq_true h3, decide_eq_true (by omega)]
set_option maxRecDepth 10000 in
theorem shouldUse_pure (n : Int) (w : World) : Pure Tryd.prog 73 [.int .i64 n] w (.bool (decide (8 < n))) := by
  refine enter Tryd.func73 rfl Tryd.ntmps73 rfl (St.start w (look w) (Le.refl _)) ?_
  refine t_seq ?_
  refine t_region ?_
  refine l_q rfl rfl rfl (q_assign rfl rfl) ?_
  refine l_nil ?_
  refine n_then ?_
  refine t_seq ?_
  refine t_region ?_
  refine l_q rfl rfl rfl (q_move rfl rfl) ?_
  refine l_q rfl rfl rfl (q_gtr rfl rfl rfl) ?_
  refine l_q rfl rfl rfl (q_assign rfl rfl) ?_
  refine l_nil ?_
  refine n_then ?_
  refine t_ret ?_
  refine n_ret1 rfl rfl (fun w' hw => ?_)
  -- leaf 0
  exact ⟨rfl, hw.below⟩
set_option maxRecDepth 10000 in
theorem indexAny_short (s c : List UInt8) (w : World) (hs : s.length ≤ 8) (hcl : 2 ≤ c.length) (hcm : c.length ≤ 1000000000) (ha : Ascii c) : PureX Tryd.prog 54 [str s, str c] w (fun v => ∃ n : Int, v = .int .i64 n ∧ decide (0 ≤ n) = anyOf s c) := by
  refine enter Tryd.func54 rfl Tryd.ntmps54 rfl (St.start w (look w) (Le.refl _)) ?_
  refine t_seq ?_
  refine t_region ?_
  refine l_q rfl rfl rfl (q_assign rfl rfl) ?_
  refine l_nil ?_
  refine n_then ?_
  refine t_seq ?_
  refine t_seq ?_
  refine t_region ?_
  refine l_q rfl rfl rfl (q_move rfl rfl) ?_
  refine l_q rfl rfl rfl (q_eql_str rfl rfl rfl) ?_
  refine l_nil ?_
  refine n_then ?_
  refine t_cond rfl (fun hc0 => ?_) (fun hc0 => ?_)
  · skip
    exfalso
    rw [of_decide_eq_true hc0] at hcl
    exact absurd hcl (by decide)
  · skip
    refine t_skip ?_
    refine n_then ?_
    refine t_seq ?_
    refine t_seq ?_
    refine t_region ?_
    refine l_q rfl rfl rfl (q_move rfl rfl) ?_
    refine l_q rfl rfl rfl (q_len_str rfl Tryd.underlying9 rfl) ?_
    refine l_q rfl rfl rfl (q_eql rfl rfl rfl) ?_
    refine l_nil ?_
    refine n_then ?_
    refine t_cond rfl (fun hc1 => ?_) (fun hc1 => ?_)
    · skip
      try simp at hc1
      exfalso
      omega
    · skip
      try simp at hc1
      refine t_skip ?_
      refine n_then ?_
      refine t_seq ?_
      refine t_seq ?_
      refine t_region ?_
      refine l_q rfl rfl rfl (q_move rfl rfl) ?_
      refine l_q rfl rfl rfl (q_len_str rfl Tryd.underlying9 rfl) ?_
      refine l_q rfl rfl rfl (quiet_call rfl rfl rfl Tryd.func73 (by kernel_rfl) rfl ((fun w _ => shouldUse_pure _ w))) ?_
      refine l_nil ?_
      refine n_then ?_
      refine t_cond rfl (fun hc2 => ?_) (fun hc2 => ?_)
      · skip
        try simp at hc2
        exfalso
        omega
      · skip
        try simp at hc2
        refine t_skip ?_
        refine n_then ?_
        refine t_seq ?_
        refine t_seq ?_
        refine t_region ?_
        refine l_q rfl rfl rfl (q_move rfl rfl) ?_
        refine l_e rfl rfl rfl (e_rangeStr rfl Tryd.underlying9 rfl) ?_
        rintro _ _ _ ⟨b45, rfl, rfl, rfl⟩
        refine l_nil ?_
        refine n_then ?_
        refine t_block ?_
        refine t_loopE (ι := Nat) (fun zz => zz ≤ s.length ∧ anyOf (s.take zz) c = false) (fun zz => s.length - zz) (fun zz => []) [(0, _), (1, _), (12, _), (15, _), (26, _), (45, _)] (fun zz => look w) (fun zz => [obj b45 (.stringIter ⟨s.toArray⟩ zz)]) 0 ?_ (sub_nil) (sub_cons rfl (sub_cons rfl (sub_cons rfl (sub_cons rfl (sub_cons rfl (sub_cons rfl sub_nil)))))) (fun _ h => subC_st h) ?_
        · try dsimp only
          exact ⟨Nat.zero_le _, rfl⟩
        rintro p ⟨hp, hno⟩
        try dsimp only at *
        refine t_seq ?_
        refine t_region ?_
        refine l_e rfl rfl rfl (e_nextStr rfl rfl) ?_
        rintro _ _ _ ⟨vs46, rfl, hz46, hn46, rfl, rfl⟩
        refine l_q rfl rfl rfl (q_extract rfl rfl hz46) ?_
        refine l_nil ?_
        refine n_then ?_
        refine t_seq ?_
        refine t_cond rfl (fun hc3 => ?_) (fun hc3 => ?_)
        · skip
          try simp at hc3
          have hlt : p < s.length := by simpa using hc3
          have hrun := dec_span s p hlt
          refine t_skip ?_
          refine n_then ?_
          refine t_block ?_
          refine t_seq ?_
          refine t_region ?_
          refine l_q rfl rfl rfl (q_extract rfl rfl (hn46 (by omega)).1) ?_
          refine l_q rfl rfl rfl (q_extract rfl rfl (hn46 (by omega)).2) ?_
          refine l_q rfl rfl rfl (q_assign rfl rfl) ?_
          refine l_q rfl rfl rfl (q_assign rfl rfl) ?_
          refine l_nil ?_
          refine n_then ?_
          refine t_seq ?_
          refine t_region ?_
          refine l_q rfl rfl rfl (q_move rfl rfl) ?_
          refine l_q rfl rfl rfl (q_move rfl rfl) ?_
          refine l_q rfl rfl rfl (quiet_call rfl rfl rfl Tryd.func48 (by kernel_rfl) rfl ((fun w _ => indexRune_pure c (runeAt s p).1 w hcm ha))) ?_
          refine l_q rfl rfl rfl (q_geq rfl rfl rfl) ?_
          refine l_nil ?_
          refine n_then ?_
          refine t_cond rfl (fun hc4 => ?_) (fun hc4 => ?_)
          · skip
            try simp at hc4
            refine t_seq ?_
            refine t_region ?_
            refine l_q rfl rfl rfl (q_move rfl rfl) ?_
            refine l_q rfl rfl rfl (q_assign rfl rfl) ?_
            refine l_nil ?_
            refine n_then ?_
            refine t_ret ?_
            refine n_ret_block ?_
            refine n_ret_then ?_
            refine n_ret_block ?_
            refine n_ret_then ?_
            refine n_ret1 rfl rfl (fun w' hw => ?_)
            -- leaf 0
            refine ⟨_, rfl, ⟨_, rfl, ?_⟩, hw.below⟩
            have hl : (nth s p 0).toNat < 128 := by
              refine Classical.byContradiction fun h => ?_
              have := (hrun.2 h).1
              rw [if_neg (by omega)] at hc4
              omega
            rw [hrun.1 hl, if_pos hl] at hc4
            have e : UInt8.ofNat (nth s p 0).toNat = nth s p 0 := by simp
            rw [e] at hc4
            rw [any_hit hlt (by rw [← indexByte_has]; exact decide_eq_true hc4)]
            exact decide_eq_true (by omega)
          · skip
            try simp at hc4
            refine t_skip ?_
            refine n_block ?_
            refine n_roundE (nextPos s p) ?_ ?_ (sub_nil) (sub_cons rfl (sub_cons rfl (sub_cons rfl (sub_cons rfl (sub_cons rfl (sub_cons rfl sub_nil)))))) (fun _ h => by try dsimp only; exact subC_st h)
            · try dsimp only
              rw [nextPos, if_pos hlt]
              by_cases hl : (nth s p 0).toNat < 128
              · have hr := hrun.1 hl
                have hn : hasB c (nth s p 0) = false := by
                  rw [hr, if_pos hl] at hc4
                  have e : UInt8.ofNat (nth s p 0).toNat = nth s p 0 := by simp
                  rw [e] at hc4
                  rw [← indexByte_has]; exact decide_eq_false (by omega)
                rw [hr]
                exact ⟨hlt, by rw [any_take hlt, hno, hn]; rfl⟩
              · obtain ⟨h1, h2, h3, h4⟩ := hrun.2 hl
                exact ⟨h3, by rw [any_span ha _ h3 h4]; exact hno⟩
            · try dsimp only
              rw [nextPos, if_pos hlt]
              by_cases hl : (nth s p 0).toNat < 128
              · rw [hrun.1 hl]; show s.length - (p + 1) < _; omega
              · have := (hrun.2 hl).2.1; omega
        · skip
          try simp at hc3
          obtain rfl : p = s.length := by omega
          refine t_exit ?_
          refine n_exit_then ?_
          refine n_exit_then ?_
          refine n_exit_block ?_
          refine n_then ?_
          refine t_seq ?_
          refine t_region ?_
          refine l_q rfl rfl rfl (q_assign rfl rfl) ?_
          refine l_nil ?_
          refine n_then ?_
          refine t_ret ?_
          refine n_ret1 rfl rfl (fun w' hw => ?_)
          -- leaf 1
          refine ⟨_, rfl, ⟨_, rfl, ?_⟩, hw.below⟩
          rw [List.take_length] at hno
          rw [hno]; rfl
theorem ascii_get {c : List UInt8} (ha : Ascii c) : ∀ (j : Nat) b, (⟨c.toArray⟩ : ByteArray).data.toList[j]? = some b → b.toNat < 128 := fun j b hb => ha b (List.mem_of_getElem? (by simpa using hb))
theorem indexAny_X (s c : List UInt8) (w : World) (hs : s.length ≤ 1000000000) (hc : 2 ≤ c.length) (hc2 : c.length ≤ 1000) (ha : Ascii c) : PureX Tryd.prog 54 [str s, str c] w (fun v => ∃ n : Int, v = .int .i64 n ∧ decide (0 ≤ n) = anyOf s c) := by
  by_cases h8 : s.length ≤ 8
  · exact indexAny_short s c w h8 hc (by omega) ha
  · have h1 := size_str s
    have h2 := size_str c
    refine (Tryd.strings_IndexAny_long (zero_of_info (n := 256) (by kernel_rfl)).1 ⟨s.toArray⟩ ⟨c.toArray⟩ w (by omega) (by omega) (by omega) (by omega) (ascii_get ha)).mono fun e w' ⟨h3, h4⟩ => ⟨_, h3, ⟨_, rfl, ?_⟩, h4 ▸ ((Below.refl _ w).alloc (Nat.le_refl _) _).alloc (by simp) _⟩
    show decide (0 ≤ Lib.indexAny s.toArray.toList c.toArray.toList) = _
    rw [show s.toArray.toList = s by simp, show c.toArray.toList = c by simp]
    exact indexAny_any s c
set_option maxRecDepth 10000 in
theorem containsAny_pure (s c : List UInt8) (w : World) (hs : s.length ≤ 1000000000) (hc : 2 ≤ c.length) (hc2 : c.length ≤ 1000) (ha : Ascii c) : Pure Tryd.prog 39 [str s, str c] w (.bool (anyOf s c)) := by
  refine enter Tryd.func39 rfl Tryd.ntmps39 rfl (St.start w (look w) (Le.refl _)) ?_
  refine t_seq ?_
  refine t_region ?_
  refine l_q rfl rfl rfl (q_assign rfl rfl) ?_
  refine l_nil ?_
  refine n_then ?_
  refine t_seq ?_
  refine t_region ?_
  refine l_q rfl rfl rfl (q_move rfl rfl) ?_
  refine l_q rfl rfl rfl (q_move rfl rfl) ?_
  refine l_e rfl rfl rfl (eff_callX rfl rfl rfl Tryd.func54 (by kernel_rfl) rfl (fun w hw => indexAny_X s c w hs hc hc2 ha)) ?_
  rintro _ _ _ ⟨⟨n, rfl, hn⟩, rfl, rfl⟩
  refine l_q rfl rfl rfl (q_geq rfl rfl rfl) ?_
  refine l_q rfl rfl rfl (q_assign rfl rfl) ?_
  refine l_nil ?_
  refine n_then ?_
  refine t_ret ?_
  refine n_ret1 rfl rfl (fun w' hw => ?_)
  -- leaf 0
  refine ⟨?_, hw.below⟩
  rw [hn]
end Go.Tri
