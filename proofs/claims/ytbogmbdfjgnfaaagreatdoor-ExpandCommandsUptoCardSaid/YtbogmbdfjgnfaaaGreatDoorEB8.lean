/-
  A builder of texts.
-/
import Derived.Test.YtbogmbdfjgnfaaaGreatDoorEB6
import Derived.Test.YtbogmbdfjgnfaaaGreatDoorTriB24
namespace Go.Tri
open Go.Proofs Go.RowKit
set_option maxRecDepth 10000 in
theorem copyCheck_calls (b : Nat) (p : Option Addr) (vb : Value) (I : Look) (F : List HA) (w0 w : World) (hp : p = none ∨ p = some ⟨b, 0, none⟩) (hw0 : St w0 I (row b 106 [.pointer p, vb] :: F) w) : Calls Tryz.prog 69 [.pointer (some ⟨b, 0, none⟩)].toArray w (fun e w' => ∃ v, e = .returned v ∧ ∃ I' H', (I = I' ∧ H' = row b 106 [.pointer (some ⟨b, 0, none⟩), vb] :: F) ∧ St w I' H' w') := by
  refine enter Tryz.func69 rfl Tryz.ntmps69 rfl (hw0.self) ?_
  refine t_seq ?_
  refine t_region ?_
  refine l_q rfl rfl rfl (q_move rfl rfl) ?_
  refine l_q rfl rfl rfl (q_nilCheck rfl rfl) ?_
  refine l_q rfl rfl rfl (q_fieldAddr rfl Tryz.underlying106 rfl rfl ti103 rfl rfl) ?_
  refine l_q rfl rfl rfl (q_load_row rfl Tryz.underlying103 rfl rfl (by rfl)) ?_
  refine l_q rfl rfl rfl (q_eql_pnil rfl (by kernel_rfl) rfl rfl) ?_
  refine l_nil ?_
  refine n_then ?_
  refine t_cond rfl (fun hc0 => ?_) (fun hc0 => ?_)
  · skip
    have hp0 : p = none := Option.isNone_iff_eq_none.1 hc0
    subst hp0
    refine t_region ?_
    refine l_q rfl rfl rfl (q_move rfl rfl) ?_
    refine l_q rfl rfl rfl (q_move rfl rfl) ?_
    refine l_q rfl rfl rfl (q_toUnsafe rfl Tryz.underlying103 Tryz.underlying177 ti106 rfl rfl rfl) ?_
    refine l_q rfl rfl rfl (quiet_extern rfl rfl rfl Tryz.func96 (by kernel_rfl) rfl (by kernel_rfl) (show Extern.find _ = some Extern.AbiNoEscape.same by kernel_rfl) (fun w => Lib.run_noEscape w _)) ?_
    refine l_q rfl rfl rfl (q_fromUnsafe rfl Tryz.underlying177 Tryz.underlying103 ti106 rfl (by kernel_rfl)) ?_
    refine l_q rfl rfl rfl (q_nilCheck rfl rfl) ?_
    refine l_q rfl rfl rfl (q_fieldAddr rfl Tryz.underlying106 rfl rfl ti103 rfl rfl) ?_
    refine l_e0 rfl rfl (e_storeS rfl ti103 rfl rfl (by first | exact ⟨rfl, rfl⟩ | assumption) rfl (by first | (simp only [List.set_cons_succ, List.set_cons_zero]; rfl) | rfl)) ?_
    rintro _ _ _ ⟨rfl, rfl⟩
    refine l_nil ?_
    refine n_end0 rfl (fun w' hw => ?_)
    -- leaf 0
    exact ⟨_, rfl, I, _, ⟨rfl, rfl⟩, (show St w I (row b 106 [.pointer (some ⟨b, 0, none⟩), vb] :: F) w' from hw)⟩
  · skip
    have hp0 : p = some ⟨b, 0, none⟩ := by rcases hp with rfl | h; cases hc0; exact h
    subst hp0
    refine t_seq ?_
    refine t_region ?_
    refine l_q rfl rfl rfl (q_move rfl rfl) ?_
    refine l_q rfl rfl rfl (q_nilCheck rfl rfl) ?_
    refine l_q rfl rfl rfl (q_fieldAddr rfl Tryz.underlying106 rfl rfl ti103 rfl rfl) ?_
    refine l_q rfl rfl rfl (q_load_row rfl Tryz.underlying103 rfl rfl (by rfl)) ?_
    refine l_q rfl rfl rfl (q_move rfl rfl) ?_
    refine l_q rfl rfl rfl (q_neq_psame rfl Tryz.underlying103 ti106 rfl rfl) ?_
    refine l_nil ?_
    refine n_then ?_
    refine t_cond rfl (fun hc1 => ?_) (fun hc1 => ?_)
    · skip
      try simp at hc1
    · skip
      try simp at hc1
      refine t_skip ?_
      refine n_end0 rfl (fun w' hw => ?_)
      -- leaf 1
      exact ⟨_, rfl, I, _, ⟨rfl, rfl⟩, (show St w I (row b 106 [.pointer (some ⟨b, 0, none⟩), vb] :: F) w' from hw)⟩
set_option maxRecDepth 10000 in
theorem writeByte_calls (b : Nat) (p : Option Addr) (vb : Value) (l : List UInt8) (c : UInt8) (I : Look) (F : List HA) (w0 w : World) (hp : p = none ∨ p = some ⟨b, 0, none⟩) (hl : l.length ≤ 140737488355000) (hw0 : St w0 I (row b 106 [.pointer p, vb] :: tvec 5 1 byC vb l :: F) w) : Calls Tryz.prog 42 [.pointer (some ⟨b, 0, none⟩), u8 c].toArray w (fun e w' => ∃ v, e = .returned v ∧ ∃ I' H', (v = .nilIface ∧ I = I' ∧ ∃ vb', H' = row b 106 [.pointer (some ⟨b, 0, none⟩), vb'] :: tvec 5 1 byC vb' (l ++ [c]) :: F) ∧ St w I' H' w') := by
  refine enter Tryz.func42 rfl Tryz.ntmps42 rfl (hw0.self) ?_
  refine t_seq ?_
  refine t_region ?_
  refine l_q rfl rfl rfl (q_assign rfl rfl) ?_
  refine l_nil ?_
  refine n_then ?_
  refine t_seq ?_
  refine t_region ?_
  refine l_q rfl rfl rfl (q_move rfl rfl) ?_
  refine l_e rfl rfl rfl (eff_call rfl rfl rfl Tryz.func69 (by kernel_rfl) rfl (fun w hw => copyCheck_calls b p vb _ _ _ w hp (picks_st1 (row b 106 [.pointer p, vb]) hw))) ?_
  rintro _ _ _ ⟨rfl, rfl⟩
  refine l_nil ?_
  refine n_then ?_
  refine t_seq ?_
  refine t_region ?_
  refine l_q rfl rfl rfl (q_move rfl rfl) ?_
  refine l_q rfl rfl rfl (q_move rfl rfl) ?_
  refine l_q rfl rfl rfl (q_nilCheck rfl rfl) ?_
  refine l_q rfl rfl rfl (q_fieldAddr rfl Tryz.underlying106 rfl rfl ti104 rfl rfl) ?_
  refine l_q rfl rfl rfl (q_load_row rfl Tryz.underlying104 rfl rfl (by rfl)) ?_
  refine l_q rfl rfl rfl (q_move rfl rfl) ?_
  refine l_e rfl rfl rfl (e_buildSlice1 rfl Tryz.underlying104 ti5 rfl rfl rfl (by first | exact One.cells (by assumption) | exact One.cells hone | rfl) rfl) ?_
  rintro _ _ _ ⟨b13, rfl, rfl, rfl⟩
  refine l_e rfl rfl rfl (e_appendT (f := byC) (c := c) rfl Tryz.underlying104 ti5 rfl rfl rfl rfl rfl rfl rfl (by first | exact byC_ones _ | exact chC_ones _ | exact pcC_ones _ | simp [Value.oneCell', str, u8] | exact ones1 (by assumption)) (by simp only [maxLen]; omega) (by omega)) ?_
  rintro v14 _ _ ⟨rfl, rfl⟩
  refine l_one v14 (fun hone => ?_)
  refine l_q rfl rfl rfl (q_nilCheck rfl rfl) ?_
  refine l_q rfl rfl rfl (q_fieldAddr rfl Tryz.underlying106 rfl rfl ti104 rfl rfl) ?_
  refine l_e0 rfl rfl (e_storeS rfl ti104 rfl rfl (by first | exact ⟨rfl, rfl⟩ | assumption | exact hone) rfl (by first | (simp only [List.set_cons_succ, List.set_cons_zero]; rfl) | rfl)) ?_
  rintro _ _ _ ⟨rfl, rfl⟩
  refine l_nil ?_
  refine n_then ?_
  refine t_seq ?_
  refine t_region ?_
  refine l_q rfl rfl rfl (q_assign rfl rfl) ?_
  refine l_nil ?_
  refine n_then ?_
  refine t_ret ?_
  refine n_ret1 rfl rfl (fun w' hw => ?_)
  -- leaf 0
  have hw2 : St w I (row b 106 [.pointer (some ⟨b, 0, none⟩), v14] :: tvec 5 1 byC v14 (l ++ [c]) :: row b13 5 [u8 c] :: F) w' := hw
  exact ⟨_, rfl, I, _, ⟨rfl, rfl, v14, rfl⟩, subC_st hw2⟩
set_option maxRecDepth 10000 in
theorem writeStringB_calls (b : Nat) (p : Option Addr) (vb : Value) (l s : List UInt8) (I : Look) (F : List HA) (w0 w : World) (hp : p = none ∨ p = some ⟨b, 0, none⟩) (hl : l.length + s.length ≤ 140737488355000) (hw0 : St w0 I (row b 106 [.pointer p, vb] :: tvec 5 1 byC vb l :: F) w) : Calls Tryz.prog 43 [.pointer (some ⟨b, 0, none⟩), str s].toArray w (fun e w' => ∃ v, e = .returned v ∧ ∃ I' H', (v = .tuple #[.int .i64 (s.length : Int), .nilIface] ∧ I = I' ∧ ∃ vb', H' = row b 106 [.pointer (some ⟨b, 0, none⟩), vb'] :: tvec 5 1 byC vb' (l ++ s) :: F ∧ (BufOk vb l → BufOk vb' (l ++ s))) ∧ St w I' H' w') := by
  refine enter Tryz.func43 rfl Tryz.ntmps43 rfl (hw0.self) ?_
  refine t_seq ?_
  refine t_region ?_
  refine l_q rfl rfl rfl (q_assign rfl rfl) ?_
  refine l_q rfl rfl rfl (q_assign rfl rfl) ?_
  refine l_nil ?_
  refine n_then ?_
  refine t_seq ?_
  refine t_region ?_
  refine l_q rfl rfl rfl (q_move rfl rfl) ?_
  refine l_e rfl rfl rfl (eff_call rfl rfl rfl Tryz.func69 (by kernel_rfl) rfl (fun w hw => copyCheck_calls b p vb _ _ _ w hp (picks_st1 (row b 106 [.pointer p, vb]) hw))) ?_
  rintro _ _ _ ⟨rfl, rfl⟩
  refine l_nil ?_
  refine n_then ?_
  refine t_seq ?_
  refine t_region ?_
  refine l_q rfl rfl rfl (q_move rfl rfl) ?_
  refine l_q rfl rfl rfl (q_move rfl rfl) ?_
  refine l_q rfl rfl rfl (q_nilCheck rfl rfl) ?_
  refine l_q rfl rfl rfl (q_fieldAddr rfl Tryz.underlying106 rfl rfl ti104 rfl rfl) ?_
  refine l_q rfl rfl rfl (q_load_row rfl Tryz.underlying104 rfl rfl (by rfl)) ?_
  refine l_q rfl rfl rfl (q_move rfl rfl) ?_
  refine l_e rfl rfl rfl (e_appendStrN rfl Tryz.underlying104 Tryz.underlying9 ti5 rfl rfl rfl (by simp only [maxLen]; omega) (by omega)) ?_
  rintro v14 _ _ ⟨rfl, rfl, hbo14⟩
  refine l_one v14 (fun hone => ?_)
  refine l_q rfl rfl rfl (q_nilCheck rfl rfl) ?_
  refine l_q rfl rfl rfl (q_fieldAddr rfl Tryz.underlying106 rfl rfl ti104 rfl rfl) ?_
  refine l_e0 rfl rfl (e_storeS rfl ti104 rfl rfl (by first | exact ⟨rfl, rfl⟩ | assumption | exact hone) rfl (by first | (simp only [List.set_cons_succ, List.set_cons_zero]; rfl) | rfl)) ?_
  rintro _ _ _ ⟨rfl, rfl⟩
  refine l_nil ?_
  refine n_then ?_
  refine t_seq ?_
  refine t_region ?_
  refine l_q rfl rfl rfl (q_move rfl rfl) ?_
  refine l_q rfl rfl rfl (q_len_str rfl Tryz.underlying9 rfl) ?_
  refine l_q rfl rfl rfl (q_assign rfl rfl) ?_
  refine l_q rfl rfl rfl (q_assign rfl rfl) ?_
  refine l_nil ?_
  refine n_then ?_
  refine t_ret ?_
  refine n_ret2 rfl rfl rfl (fun w' hw => ?_)
  -- leaf 0
  have hw2 : St w I (row b 106 [.pointer (some ⟨b, 0, none⟩), v14] :: tvec 5 1 byC v14 (l ++ s) :: F) w' := hw
  exact ⟨_, rfl, I, _, ⟨rfl, rfl, v14, rfl, hbo14⟩, hw2⟩
set_option maxRecDepth 10000 in
theorem builderString_calls (b : Nat) (p : Value) (vb : Value) (l : List UInt8) (I : Look) (F : List HA) (w0 w : World) (hok : BufOk vb l) (hl : l.length ≤ 9223372036854775807) (hw0 : St w0 I (row b 106 [p, vb] :: tvec 5 1 byC vb l :: F) w) : Calls Tryz.prog 44 [.pointer (some ⟨b, 0, none⟩)].toArray w (fun e w' => ∃ v, e = .returned v ∧ ∃ I' H', (v = str l ∧ I = I' ∧ H' = F) ∧ St w I' H' w') := by
  refine enter Tryz.func44 rfl Tryz.ntmps44 rfl (hw0.self) ?_
  refine t_seq ?_
  refine t_region ?_
  refine l_q rfl rfl rfl (q_assign rfl rfl) ?_
  refine l_nil ?_
  refine n_then ?_
  refine t_seq ?_
  refine t_draw [10] [] [row b 106 [p, vb]] mo (by kernel_rfl) (fun _ _ _ _ _ h => h) ?_
  refine r_q1 0 (by kernel_rfl) rfl (Le.refl _) rfl rfl rfl (q_move rfl rfl) ?_
  refine r_q1 1 (by kernel_rfl) rfl (Le.refl _) rfl rfl rfl (q_nilCheck rfl rfl) ?_
  refine r_q1 2 (by kernel_rfl) rfl (Le.refl _) rfl rfl rfl (q_fieldAddr rfl Tryz.underlying106 rfl rfl ti104 rfl rfl) ?_
  refine r_q1 3 (by kernel_rfl) rfl (Le.refl _) rfl rfl rfl (q_load_row rfl Tryz.underlying104 rfl rfl (by rfl)) ?_
  refine r_q1 4 (by kernel_rfl) rfl (Le.refl _) rfl rfl rfl (q_sliceData (ty := 0) rfl rfl hok) ?_
  refine r_q1 5 (by kernel_rfl) rfl (Le.refl _) rfl rfl rfl (q_move rfl rfl) ?_
  refine r_q1 6 (by kernel_rfl) rfl (Le.refl _) rfl rfl rfl (q_nilCheck rfl rfl) ?_
  refine r_q1 7 (by kernel_rfl) rfl (Le.refl _) rfl rfl rfl (q_fieldAddr rfl Tryz.underlying106 rfl rfl ti104 rfl rfl) ?_
  refine r_q1 8 (by kernel_rfl) rfl (Le.refl _) rfl rfl rfl (q_load_row rfl Tryz.underlying104 rfl rfl (by rfl)) ?_
  refine r_q1 9 (by kernel_rfl) rfl (Le.refl _) rfl rfl rfl ((by first | exact q_lenV rfl Tryz.underlying104 rfl | exact q_len rfl Tryz.underlying104 rfl (Sl.len ‹_›))) ?_
  refine r_e 10 (by kernel_rfl) (by kernel_rfl) rfl (Le.refl _) rfl rfl rfl (e_unsafeString rfl Tryz.underlying150 (by kernel_rfl) rfl rfl rfl hok (by omega)) ?_
  rintro _ _ _ ⟨rfl, rfl, rfl⟩
  refine ⟨Le.refl _, .inr SubC.sub, ?_⟩
  refine r_q0 11 (by kernel_rfl) rfl (Le.refl _) rfl rfl rfl (fun _ hI => q_assign rfl rfl) ?_
  refine r_end (by kernel_rfl) ?_
  refine n_then ?_
  refine t_ret ?_
  refine n_ret1 rfl rfl (fun w' hw => ?_)
  -- leaf 0
  exact ⟨_, rfl, I, _, ⟨rfl, rfl, rfl⟩, subC_st hw⟩
end Go.Tri

/-
  Parts, and what is static.
-/
namespace Go.Tri
open Go.Proofs Go.RowKit
set_option maxRecDepth 10000 in
theorem parts_calls (s : List UInt8) (kind : Int) (I : Look) (F : List HA) (w0 w : World) (hs : s.length ≤ 1000000000) (hG : EnvI I) (hw0 : St w0 I F w) : Calls Tryz.prog 40 [str s, .int .i64 kind].toArray w (fun e w' => ∃ v, e = .returned v ∧ ∃ I' H', (Le I I' ∧ F = H' ∧ ∃ vl, ∃ e1 : Nat, v = .tuple #[vl, .int .i64 (e1 : Int)] ∧ WRes (partsP s kind) I' vl e1) ∧ St w I' H' w') := by
  refine enter Tryz.func40 rfl Tryz.ntmps40 rfl (hw0.self) ?_
  refine t_seq ?_
  refine t_region ?_
  refine l_q rfl rfl rfl (q_assign rfl rfl) ?_
  refine l_q rfl rfl rfl (q_assign rfl rfl) ?_
  refine l_nil ?_
  refine n_then ?_
  refine t_seq ?_
  refine t_block ?_
  refine t_seq ?_
  refine t_region ?_
  refine l_q rfl rfl rfl (q_move rfl rfl) ?_
  refine l_q rfl rfl rfl (q_len_str rfl Tryz.underlying9 rfl) ?_
  refine l_q rfl rfl rfl (q_gtr rfl rfl rfl) ?_
  refine l_q rfl rfl rfl (q_assign rfl rfl) ?_
  refine l_nil ?_
  refine n_then ?_
  refine t_cond rfl (fun hc0 => ?_) (fun hc0 => ?_)
  · skip
    try simp at hc0
    have hpp : partsP s kind = .bad 50 := by rw [partsP, if_pos (by omega)]
    refine t_seq ?_
    refine t_region ?_
    refine l_q rfl rfl rfl (q_assign rfl rfl) ?_
    refine l_q rfl rfl rfl (q_assign rfl rfl) ?_
    refine l_nil ?_
    refine n_then ?_
    refine t_ret ?_
    refine n_ret_block ?_
    refine n_ret_then ?_
    refine n_ret2 rfl rfl rfl (fun w' hw => ?_)
    -- leaf 0
    exact ⟨_, rfl, I, _, ⟨Le.refl _, rfl, nilV, 50, rfl, (by rw [hpp]; exact ⟨rfl, by decide, rfl⟩)⟩, hw⟩
  · skip
    try simp at hc0
    have hs6 : ¬ 65536 < s.length := by omega
    refine t_seq ?_
    refine t_qreg ?_
    refine s_q rfl rfl rfl (q_move rfl rfl) ?_
    refine s_q rfl rfl rfl (q_lss rfl rfl rfl) ?_
    refine s_q rfl rfl rfl (q_move rfl rfl) ?_
    refine s_or2 2 2 13 16 15 _ _ rfl rfl rfl rfl rfl rfl (fun h16 => by
        try simp at h16
        refine s_g rfl rfl rfl rfl rfl rfl (q_move rfl rfl) ?_
        refine s_g rfl rfl rfl rfl rfl rfl (q_gtr rfl rfl rfl) ?_
        exact s_val rfl
      ) (wanted_n rfl) rfl rfl rfl ?_
    refine s_q rfl rfl rfl (q_assign rfl rfl) ?_
    refine s_done ?_
    refine n_then ?_
    refine t_cond rfl (fun hc1 => ?_) (fun hc1 => ?_)
    · skip
      have h1 : kind < 0 ∨ 2 < kind := by simpa using hc1
      have hpp : partsP s kind = .bad 73 := by rw [partsP, if_neg hs6, if_pos h1]
      refine t_seq ?_
      refine t_region ?_
      refine l_q rfl rfl rfl (q_assign rfl rfl) ?_
      refine l_q rfl rfl rfl (q_assign rfl rfl) ?_
      refine l_nil ?_
      refine n_then ?_
      refine t_ret ?_
      refine n_ret_block ?_
      refine n_ret_then ?_
      refine n_ret2 rfl rfl rfl (fun w' hw => ?_)
      -- leaf 1
      exact ⟨_, rfl, I, _, ⟨Le.refl _, rfl, nilV, 73, rfl, (by rw [hpp]; exact ⟨rfl, by decide, rfl⟩)⟩, hw⟩
    · skip
      have h1 : ¬ (kind < 0 ∨ 2 < kind) := by
        have h := hc1
        rw [Bool.or_eq_false_iff, decide_eq_false_iff_not, decide_eq_false_iff_not] at h
        exact fun h2 => h2.elim h.1 h.2
      obtain ⟨kind, rfl⟩ : ∃ k : Nat, kind = (k : Int) := ⟨kind.toNat, by omega⟩
      have hk2 : kind ≤ 2 := by omega
      have hpp : partsP s (kind : Int) = wP 24 kind s := by rw [partsP, if_neg hs6, if_neg h1]; rfl
      refine t_skip ?_
      refine n_block ?_
      refine n_then ?_
      refine t_seq ?_
      refine t_region ?_
      refine l_q rfl rfl rfl (q_move rfl rfl) ?_
      refine l_q rfl rfl rfl (q_move rfl rfl) ?_
      refine l_e rfl rfl rfl (eff_call rfl rfl rfl Tryz.func67 (by kernel_rfl) rfl (fun w hw => within_ok 24 s kind 0 _ _ _ w rfl (by omega) hk2 (by omega) hG hw)) ?_
      rintro _ J19 _ ⟨hJ19, rfl, vl, e1, rfl, hres⟩
      refine l_q rfl rfl rfl (q_extract rfl rfl rfl) ?_
      refine l_q rfl rfl rfl (q_extract rfl rfl rfl) ?_
      refine l_q rfl rfl rfl (q_assign rfl rfl) ?_
      refine l_q rfl rfl rfl (q_assign rfl rfl) ?_
      refine l_nil ?_
      refine n_then ?_
      refine t_ret ?_
      refine n_ret2 rfl rfl rfl (fun w' hw => ?_)
      -- leaf 2
      exact ⟨_, rfl, J19, _, ⟨hJ19, rfl, vl, e1, rfl, (by rw [hpp]; exact hres)⟩, hw⟩
end Go.Tri
