/-
  Letters, names, what is odd.
-/
import Derived.Test.YtigfpkcaakkgaaaDoorOA0
import Derived.Test.YtigfpkcaakkgaaaDoorTrydShelf
namespace Go.Tri
open Go.Proofs Go.RowKit
/-- what the package variables hold -/
structure GW (w : World) : Prop where
  tab : Lib.TabIs Tryd.prog w "internal/strconv.uint64pow10" .u64 Lib.pow10Tab
  syn : ∃ ev, w.cell? ⟨1, 0, none⟩ = some ev ∧ (ev = .nilIface ∨ ∃ te pe, ev = .iface te pe)
  rng : ∃ ev, w.cell? ⟨2, 0, none⟩ = some ev ∧ (ev = .nilIface ∨ ∃ te pe, ev = .iface te pe)
  max : ∃ m, w.cell? ⟨3, 0, none⟩ = some (.int .i64 m)
theorem cell_le {w w' : World} (h : Le (look w) (look w')) {a : Addr} {v : Value} (hc : w.cell? a = some v) : w'.cell? a = some v := by
  unfold World.cell? at *
  cases hb : w.heap[a.block]? with
  | none => rw [hb] at hc; cases hc
  | some o => rw [hb] at hc; rw [show w'.heap[a.block]? = some o from h _ _ hb]; exact hc
theorem var_le {w w' : World} (h : Le (look w) (look w')) {P : Program} {n : String} {cs : Array Value} (hc : w.var? P n = some cs) : w'.var? P n = some cs := by
  unfold World.var? at *
  rw [Option.bind_eq_some_iff] at *
  obtain ⟨g, hg, hc⟩ := hc
  refine ⟨g, hg, ?_⟩
  cases hb : w.heap[g]? with
  | none => rw [hb] at hc; cases hc
  | some o => rw [hb] at hc; rw [show w'.heap[g]? = some o from h _ _ hb]; exact hc
theorem GW.le {w w' : World} (h : GW w) (k : Le (look w) (look w')) : GW w' where
  tab := var_le k h.tab
  syn := let ⟨ev, h1, h2⟩ := h.syn; ⟨ev, cell_le k h1, h2⟩
  rng := let ⟨ev, h1, h2⟩ := h.rng; ⟨ev, cell_le k h1, h2⟩
  max := let ⟨m, h1⟩ := h.max; ⟨m, cell_le k h1⟩
theorem contains_odd (c : UInt8) : decide (0 ≤ Lib.indexByte oddText c) = hasB oddText c := indexByte_has _ _
theorem rune_pure (n : Nat) (w : World) (h : n < 128) : Pure Tryd.prog 33 [str oddText, .int .i32 (n : Int)] w (.bool (hasB oddText (UInt8.ofNat n))) := by
  refine (Tryd.strings_ContainsRune_ascii ⟨oddText.toArray⟩ (n : Int) w (by omega) (by omega)).mono fun e w' ⟨h1, h2⟩ => ?_
  subst h2
  refine ⟨?_, Below.refl _ _⟩
  rw [h1, ← contains_odd]
  rfl
theorem oddR_eq (x : Nat) : oddR x = !(decide ((x : Int) < 128) && (letterB (UInt8.ofNat x) || decide ((48 : Int) ≤ (x : Int)) && decide ((x : Int) ≤ 57) || hasB oddText (UInt8.ofNat x))) := by
  unfold oddR plainC digitB'
  by_cases h : x < 128
  · have h' : (UInt8.ofNat x).toNat = x := by rw [UInt8.toNat_ofNat']; omega
    rw [h', show decide ((x : Int) < 128) = true from decide_eq_true (by omega), show decide (x < 128) = true from decide_eq_true h]
  · rw [show decide ((x : Int) < 128) = false from decide_eq_false (by omega), show decide (x < 128) = false from decide_eq_false h]; rfl
set_option maxRecDepth 10000 in
theorem letter_pure (c : UInt8) (w : World) : Pure Tryd.prog 29 [u8 c] w (.bool (letterB c)) := by
  refine enter Tryd.func29 rfl Tryd.ntmps29 rfl (St.start w (look w) (Le.refl _)) ?_
  refine t_seq ?_
  refine t_region ?_
  refine l_q rfl rfl rfl (q_assign rfl rfl) ?_
  refine l_nil ?_
  refine n_then ?_
  refine t_seq ?_
  refine t_qreg ?_
  refine s_q rfl rfl rfl (q_move rfl rfl) ?_
  refine s_q rfl rfl rfl (q_or_u8 (d := 32) rfl rfl rfl) ?_
  refine s_q rfl rfl rfl (q_leq rfl rfl rfl) ?_
  refine s_q rfl rfl rfl (q_move rfl rfl) ?_
  refine s_and2 3 3 6 10 9 _ _ rfl rfl rfl rfl rfl rfl (fun h10 => by
      try simp at h10
      refine s_g rfl rfl rfl rfl rfl rfl (q_move rfl rfl) ?_
      refine s_g rfl rfl rfl rfl rfl rfl (q_or_u8 (d := 32) rfl rfl rfl) ?_
      refine s_g rfl rfl rfl rfl rfl rfl (q_leq rfl rfl rfl) ?_
      exact s_val rfl
    ) (wanted_n rfl) rfl rfl rfl ?_
  refine s_q rfl rfl rfl (q_move rfl rfl) ?_
  refine s_and2 2 8 11 14 13 _ _ rfl rfl rfl rfl rfl rfl (fun h14 => by
      try simp at h14
      refine s_g rfl rfl rfl rfl rfl rfl (q_move rfl rfl) ?_
      refine s_g rfl rfl rfl rfl rfl rfl (q_lss rfl rfl rfl) ?_
      exact s_val rfl
    ) (wanted_n rfl) rfl rfl rfl ?_
  refine s_q rfl rfl rfl (q_move rfl rfl) ?_
  refine s_or2 2 12 15 18 17 _ _ rfl rfl rfl rfl rfl rfl (fun h18 => by
      try simp at h18
      refine s_g rfl rfl rfl rfl rfl rfl (q_move rfl rfl) ?_
      refine s_g rfl rfl rfl rfl rfl rfl (q_eql_u8c rfl rfl rfl rfl) ?_
      exact s_val rfl
    ) (wanted_n rfl) rfl rfl rfl ?_
  refine s_q rfl rfl rfl (q_assign rfl rfl) ?_
  refine s_done ?_
  refine n_then ?_
  refine t_ret ?_
  refine n_ret1 rfl rfl (fun w' hw => ?_)
  -- leaf 0
  refine ⟨?_, hw.below⟩
  rw [← letter_or c]; rfl
set_option maxRecDepth 10000 in
theorem quote1_pure (x : Nat) (w : World) : Pure Tryd.prog 32 [.int .i32 (x : Int)] w (.bool (oddR x)) := by
  refine enter Tryd.func32 rfl Tryd.ntmps32 rfl (St.start w (look w) (Le.refl _)) ?_
  refine t_seq ?_
  refine t_region ?_
  refine l_q rfl rfl rfl (q_assign rfl rfl) ?_
  refine l_nil ?_
  refine n_then ?_
  refine t_seq ?_
  refine t_qreg ?_
  refine s_q rfl rfl rfl (q_move rfl rfl) ?_
  refine s_q rfl rfl rfl (q_lss rfl rfl rfl) ?_
  refine s_q rfl rfl rfl (q_move rfl rfl) ?_
  refine s_and2 15 2 5 21 20 _ _ rfl rfl rfl rfl rfl rfl (fun h21 => by
      try simp at h21
      have hx : x < 128 := by omega
      refine s_g rfl rfl rfl rfl rfl rfl (q_move rfl rfl) ?_
      refine s_g rfl rfl rfl rfl rfl rfl (q_conv_u8 x rfl Tryd.underlying21 Tryd.underlying5 rfl rfl) ?_
      refine s_g rfl rfl rfl rfl rfl rfl (quiet_call rfl rfl rfl Tryd.func29 (by kernel_rfl) rfl ((fun w _ => letter_pure _ w))) ?_
      refine s_g rfl rfl rfl rfl rfl rfl (q_move rfl rfl) ?_
      refine s_or2 6 6 9 16 15 _ _ rfl rfl rfl rfl rfl rfl (fun h16 => by
          try simp at h16
          refine s_g rfl rfl rfl rfl rfl rfl (q_move rfl rfl) ?_
          refine s_g rfl rfl rfl rfl rfl rfl (q_leq rfl rfl rfl) ?_
          refine s_g rfl rfl rfl rfl rfl rfl (q_move rfl rfl) ?_
          refine s_and2 2 9 12 15 14 _ _ rfl rfl rfl rfl rfl rfl (fun h15 => by
              try simp at h15
              refine s_g rfl rfl rfl rfl rfl rfl (q_move rfl rfl) ?_
              refine s_g rfl rfl rfl rfl rfl rfl (q_leq rfl rfl rfl) ?_
              exact s_val rfl
            ) (wanted_g rfl rfl rfl rfl) rfl rfl rfl ?_
          exact s_val rfl
        ) (wanted_g rfl rfl rfl rfl) rfl rfl rfl ?_
      refine s_g rfl rfl rfl rfl rfl rfl (q_move rfl rfl) ?_
      refine s_or2 2 14 17 20 19 _ _ rfl rfl rfl rfl rfl rfl (fun h20 => by
          try simp at h20
          refine s_g rfl rfl rfl rfl rfl rfl (q_move rfl rfl) ?_
          refine s_g rfl rfl rfl rfl rfl rfl (quiet_call rfl rfl rfl Tryd.func33 (by kernel_rfl) rfl ((fun w _ => rune_pure x w (by omega)))) ?_
          exact s_val rfl
        ) (wanted_g rfl rfl rfl rfl) rfl rfl rfl ?_
      exact s_val rfl
    ) (wanted_n rfl) rfl rfl rfl ?_
  refine s_q rfl rfl rfl (q_not rfl rfl) ?_
  refine s_q rfl rfl rfl (q_assign rfl rfl) ?_
  refine s_done ?_
  refine n_then ?_
  refine t_ret ?_
  refine n_ret1 rfl rfl (fun w' hw => ?_)
  -- leaf 0
  refine ⟨?_, hw.below⟩
  rw [oddR_eq]
end Go.Tri
