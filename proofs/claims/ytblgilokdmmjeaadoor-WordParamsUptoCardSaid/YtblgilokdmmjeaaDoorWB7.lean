/-
  A builder of texts.
-/
import Derived.Test.YtblgilokdmmjeaaDoorWB6
import Derived.Test.YtblgilokdmmjeaaDoorTriB14
namespace Go.Tri
open Go.Proofs Go.RowKit
set_option maxRecDepth 10000 in
theorem copyCheck_calls (b : Nat) (p : Option Addr) (vb : Value) (I : Look) (F : List HA) (w0 w : World) (hp : p = none ∨ p = some ⟨b, 0, none⟩) (hw0 : St w0 I (row b 49 [.pointer p, vb] :: F) w) : Calls Tryd.prog 33 [.pointer (some ⟨b, 0, none⟩)].toArray w (fun e w' => ∃ v, e = .returned v ∧ ∃ I' H', (I = I' ∧ H' = row b 49 [.pointer (some ⟨b, 0, none⟩), vb] :: F) ∧ St w I' H' w') := by
  refine enter Tryd.func33 rfl Tryd.ntmps33 rfl (hw0.self) ?_
  refine t_seq ?_
  refine t_region ?_
  refine l_q rfl rfl rfl (q_move rfl rfl) ?_
  refine l_q rfl rfl rfl (q_nilCheck rfl rfl) ?_
  refine l_q rfl rfl rfl (q_fieldAddr rfl Tryd.underlying49 rfl rfl ti46 rfl rfl) ?_
  refine l_q rfl rfl rfl (q_load_row rfl Tryd.underlying46 rfl rfl (by rfl)) ?_
  refine l_q rfl rfl rfl (q_eql_pnil rfl (by kernel_rfl) rfl rfl) ?_
  refine l_nil ?_
  refine n_then ?_
  refine t_cond rfl (fun hc0 => ?_) (fun hc0 => ?_)
  · skip
    have hp0 : p = none := Option.isNone_iff_eq_none.1 hc0
    subst hp0
    refine t_region ?_
    refine l_q rfl rfl rfl (q_move rfl rfl) ?_
    refine l_q rfl rfl rfl (q_move rfl rfl) ?_
    refine l_q rfl rfl rfl (q_toUnsafe rfl Tryd.underlying46 Tryd.underlying75 ti49 rfl rfl rfl) ?_
    refine l_q rfl rfl rfl (quiet_extern rfl rfl rfl Tryd.func44 (by kernel_rfl) rfl (by kernel_rfl) (show Extern.find _ = some Extern.AbiNoEscape.same by kernel_rfl) (fun w => Lib.run_noEscape w _)) ?_
    refine l_q rfl rfl rfl (q_fromUnsafe rfl Tryd.underlying75 Tryd.underlying46 ti49 rfl (by kernel_rfl)) ?_
    refine l_q rfl rfl rfl (q_nilCheck rfl rfl) ?_
    refine l_q rfl rfl rfl (q_fieldAddr rfl Tryd.underlying49 rfl rfl ti46 rfl rfl) ?_
    refine l_e0 rfl rfl (e_storeS rfl ti46 rfl rfl (by first | exact ⟨rfl, rfl⟩ | assumption) rfl (by first | (simp only [List.set_cons_succ, List.set_cons_zero]; rfl) | rfl)) ?_
    rintro _ _ _ ⟨rfl, rfl⟩
    refine l_nil ?_
    refine n_end0 rfl (fun w' hw => ?_)
    -- leaf 0
    exact ⟨_, rfl, I, _, ⟨rfl, rfl⟩, (show St w I (row b 49 [.pointer (some ⟨b, 0, none⟩), vb] :: F) w' from hw)⟩
  · skip
    have hp0 : p = some ⟨b, 0, none⟩ := by rcases hp with rfl | h; cases hc0; exact h
    subst hp0
    refine t_seq ?_
    refine t_region ?_
    refine l_q rfl rfl rfl (q_move rfl rfl) ?_
    refine l_q rfl rfl rfl (q_nilCheck rfl rfl) ?_
    refine l_q rfl rfl rfl (q_fieldAddr rfl Tryd.underlying49 rfl rfl ti46 rfl rfl) ?_
    refine l_q rfl rfl rfl (q_load_row rfl Tryd.underlying46 rfl rfl (by rfl)) ?_
    refine l_q rfl rfl rfl (q_move rfl rfl) ?_
    refine l_q rfl rfl rfl (q_neq_psame rfl Tryd.underlying46 ti49 rfl rfl) ?_
    refine l_nil ?_
    refine n_then ?_
    refine t_cond rfl (fun hc1 => ?_) (fun hc1 => ?_)
    · skip
      try simp at hc1
    · skip
      try simp at hc1
      refine t_skip ?_
      refine n_end0 rfl (fun w' hw => ?_)
      -- leaf 1
      exact ⟨_, rfl, I, _, ⟨rfl, rfl⟩, (show St w I (row b 49 [.pointer (some ⟨b, 0, none⟩), vb] :: F) w' from hw)⟩
set_option maxRecDepth 10000 in
theorem writeStringB_calls (b : Nat) (p : Option Addr) (vb : Value) (l s : List UInt8) (I : Look) (F : List HA) (w0 w : World) (hp : p = none ∨ p = some ⟨b, 0, none⟩) (hl : l.length + s.length ≤ 140737488355000) (hw0 : St w0 I (row b 49 [.pointer p, vb] :: tvec 5 1 byC vb l :: F) w) : Calls Tryd.prog 22 [.pointer (some ⟨b, 0, none⟩), str s].toArray w (fun e w' => ∃ v, e = .returned v ∧ ∃ I' H', (v = .tuple #[.int .i64 (s.length : Int), .nilIface] ∧ I = I' ∧ ∃ vb', H' = row b 49 [.pointer (some ⟨b, 0, none⟩), vb'] :: tvec 5 1 byC vb' (l ++ s) :: F ∧ (BufOk vb l → BufOk vb' (l ++ s))) ∧ St w I' H' w') := by
  refine enter Tryd.func22 rfl Tryd.ntmps22 rfl (hw0.self) ?_
  refine t_seq ?_
  refine t_region ?_
  refine l_q rfl rfl rfl (q_assign rfl rfl) ?_
  refine l_q rfl rfl rfl (q_assign rfl rfl) ?_
  refine l_nil ?_
  refine n_then ?_
  refine t_seq ?_
  refine t_region ?_
  refine l_q rfl rfl rfl (q_move rfl rfl) ?_
  refine l_e rfl rfl rfl (eff_call rfl rfl rfl Tryd.func33 (by kernel_rfl) rfl (fun w hw => copyCheck_calls b p vb _ _ _ w hp (picks_st1 (row b 49 [.pointer p, vb]) hw))) ?_
  rintro _ _ _ ⟨rfl, rfl⟩
  refine l_nil ?_
  refine n_then ?_
  refine t_seq ?_
  refine t_region ?_
  refine l_q rfl rfl rfl (q_move rfl rfl) ?_
  refine l_q rfl rfl rfl (q_move rfl rfl) ?_
  refine l_q rfl rfl rfl (q_nilCheck rfl rfl) ?_
  refine l_q rfl rfl rfl (q_fieldAddr rfl Tryd.underlying49 rfl rfl ti47 rfl rfl) ?_
  refine l_q rfl rfl rfl (q_load_row rfl Tryd.underlying47 rfl rfl (by rfl)) ?_
  refine l_q rfl rfl rfl (q_move rfl rfl) ?_
  refine l_e rfl rfl rfl (e_appendStrN rfl Tryd.underlying47 Tryd.underlying9 ti5 rfl rfl rfl (by simp only [maxLen]; omega) (by omega)) ?_
  rintro v14 _ _ ⟨rfl, rfl, hbo14⟩
  refine l_one v14 (fun hone => ?_)
  refine l_q rfl rfl rfl (q_nilCheck rfl rfl) ?_
  refine l_q rfl rfl rfl (q_fieldAddr rfl Tryd.underlying49 rfl rfl ti47 rfl rfl) ?_
  refine l_e0 rfl rfl (e_storeS rfl ti47 rfl rfl (by first | exact ⟨rfl, rfl⟩ | assumption | exact hone) rfl (by first | (simp only [List.set_cons_succ, List.set_cons_zero]; rfl) | rfl)) ?_
  rintro _ _ _ ⟨rfl, rfl⟩
  refine l_nil ?_
  refine n_then ?_
  refine t_seq ?_
  refine t_region ?_
  refine l_q rfl rfl rfl (q_move rfl rfl) ?_
  refine l_q rfl rfl rfl (q_len_str rfl Tryd.underlying9 rfl) ?_
  refine l_q rfl rfl rfl (q_assign rfl rfl) ?_
  refine l_q rfl rfl rfl (q_assign rfl rfl) ?_
  refine l_nil ?_
  refine n_then ?_
  refine t_ret ?_
  refine n_ret2 rfl rfl rfl (fun w' hw => ?_)
  -- leaf 0
  have hw2 : St w I (row b 49 [.pointer (some ⟨b, 0, none⟩), v14] :: tvec 5 1 byC v14 (l ++ s) :: F) w' := hw
  exact ⟨_, rfl, I, _, ⟨rfl, rfl, v14, rfl, hbo14⟩, hw2⟩
set_option maxRecDepth 10000 in
theorem builderString_calls (b : Nat) (p : Value) (vb : Value) (l : List UInt8) (I : Look) (F : List HA) (w0 w : World) (hok : BufOk vb l) (hl : l.length ≤ 9223372036854775807) (hw0 : St w0 I (row b 49 [p, vb] :: tvec 5 1 byC vb l :: F) w) : Calls Tryd.prog 23 [.pointer (some ⟨b, 0, none⟩)].toArray w (fun e w' => ∃ v, e = .returned v ∧ ∃ I' H', (v = str l ∧ I = I' ∧ H' = F) ∧ St w I' H' w') := by
  refine enter Tryd.func23 rfl Tryd.ntmps23 rfl (hw0.self) ?_
  refine t_seq ?_
  refine t_region ?_
  refine l_q rfl rfl rfl (q_assign rfl rfl) ?_
  refine l_nil ?_
  refine n_then ?_
  refine t_seq ?_
  refine t_draw [10] [] [row b 49 [p, vb]] mo (by kernel_rfl) (fun _ _ _ _ _ h => h) ?_
  refine r_q1 0 (by kernel_rfl) rfl (Le.refl _) rfl rfl rfl (q_move rfl rfl) ?_
  refine r_q1 1 (by kernel_rfl) rfl (Le.refl _) rfl rfl rfl (q_nilCheck rfl rfl) ?_
  refine r_q1 2 (by kernel_rfl) rfl (Le.refl _) rfl rfl rfl (q_fieldAddr rfl Tryd.underlying49 rfl rfl ti47 rfl rfl) ?_
  refine r_q1 3 (by kernel_rfl) rfl (Le.refl _) rfl rfl rfl (q_load_row rfl Tryd.underlying47 rfl rfl (by rfl)) ?_
  refine r_q1 4 (by kernel_rfl) rfl (Le.refl _) rfl rfl rfl (q_sliceData (ty := 0) rfl rfl hok) ?_
  refine r_q1 5 (by kernel_rfl) rfl (Le.refl _) rfl rfl rfl (q_move rfl rfl) ?_
  refine r_q1 6 (by kernel_rfl) rfl (Le.refl _) rfl rfl rfl (q_nilCheck rfl rfl) ?_
  refine r_q1 7 (by kernel_rfl) rfl (Le.refl _) rfl rfl rfl (q_fieldAddr rfl Tryd.underlying49 rfl rfl ti47 rfl rfl) ?_
  refine r_q1 8 (by kernel_rfl) rfl (Le.refl _) rfl rfl rfl (q_load_row rfl Tryd.underlying47 rfl rfl (by rfl)) ?_
  refine r_q1 9 (by kernel_rfl) rfl (Le.refl _) rfl rfl rfl ((by first | exact q_lenV rfl Tryd.underlying47 rfl | exact q_len rfl Tryd.underlying47 rfl (Sl.len ‹_›))) ?_
  refine r_e 10 (by kernel_rfl) (by kernel_rfl) rfl (Le.refl _) rfl rfl rfl (e_unsafeString rfl Tryd.underlying65 (by kernel_rfl) rfl rfl rfl hok (by omega)) ?_
  rintro _ _ _ ⟨rfl, rfl, rfl⟩
  refine ⟨Le.refl _, .inr SubC.sub, ?_⟩
  refine r_q0 11 (by kernel_rfl) rfl (Le.refl _) rfl rfl rfl (fun _ hI => q_assign rfl rfl) ?_
  refine r_end (by kernel_rfl) ?_
  refine n_then ?_
  refine t_ret ?_
  refine n_ret1 rfl rfl (fun w' hw => ?_)
  -- leaf 0
  exact ⟨_, rfl, I, _, ⟨rfl, rfl, rfl⟩, subC_st hw⟩
end Go.Tri
