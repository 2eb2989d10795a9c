/-
  A builder of texts.
-/
import Derived.Test.YtbogmbdfjgnfaaaGreatDoorEB6
import Derived.Test.YtbogmbdfjgnfaaaGreatDoorTriB21
namespace Go.Tri
open Go.Proofs Go.RowKit
set_option maxRecDepth 10000 in
theorem copyCheck_calls (b : Nat) (p : Option Addr) (vb : Value) (I : Look) (F : List HA) (w0 w : World) (hp : p = none ∨ p = some ⟨b, 0, none⟩) (hw0 : St w0 I (row b 106 [.pointer p, vb] :: F) w) : Calls Tryz.prog 69 [.pointer (some ⟨b, 0, none⟩)].toArray w (fun e w' => ∃ v, e = .returned v ∧ ∃ I' H', (I = I' ∧ H' = row b 106 [.pointer (some ⟨b, 0, none⟩), vb] :: F) ∧ St w I' H' w') := by
  refine enter Tryz.func69 rfl Tryz.ntmps69 rfl (hw0.self) ?_
  refine t_seq ?_
  refine t_region ?_
  refine l_q rfl rfl rfl (q_move rfl rfl) ?_
  refine l_q rfl rfl rfl (q_nilCheck rfl rfl) ?_
  refine l_q rfl rfl rfl (q_fieldAddr rfl Tryz.underlying106 rfl rfl ti103 rfl rfl) ?_
  refine l_q rfl rfl rfl (q_load_row rfl Tryz.underlying103 rfl rfl (by rfl)) ?_
  refine l_q rfl rfl rfl (q_eql_pnil rfl (by kernel_rfl) rfl rfl) ?_
  refine l_nil ?_
  refine n_then ?_
  refine t_cond rfl (fun hc0 => ?_) (fun hc0 => ?_)
  · skip
    have hp0 : p = none := Option.isNone_iff_eq_none.1 hc0
    subst hp0
    refine t_region ?_
    refine l_q rfl rfl rfl (q_move rfl rfl) ?_
    refine l_q rfl rfl rfl (q_move rfl rfl) ?_
    refine l_q rfl rfl rfl (q_toUnsafe rfl Tryz.underlying103 Tryz.underlying177 ti106 rfl rfl rfl) ?_
    refine l_q rfl rfl rfl (quiet_extern rfl rfl rfl Tryz.func96 (by kernel_rfl) rfl (by kernel_rfl) (show Extern.find _ = some Extern.AbiNoEscape.same by kernel_rfl) (fun w => Lib.run_noEscape w _)) ?_
    refine l_q rfl rfl rfl (q_fromUnsafe rfl Tryz.underlying177 Tryz.underlying103 ti106 rfl (by kernel_rfl)) ?_
    refine l_q rfl rfl rfl (q_nilCheck rfl rfl) ?_
    refine l_q rfl rfl rfl (q_fieldAddr rfl Tryz.underlying106 rfl rfl ti103 rfl rfl) ?_
    refine l_e0 rfl rfl (e_storeS rfl ti103 rfl rfl (by first | exact ⟨rfl, rfl⟩ | assumption) rfl (by first | (simp only [List.set_cons_succ, List.set_cons_zero]; rfl) | rfl)) ?_
    rintro _ _ _ ⟨rfl, rfl⟩
    refine l_nil ?_
    refine n_end0 rfl (fun w' hw => ?_)
    -- leaf 0
    exact ⟨_, rfl, I, _, ⟨rfl, rfl⟩, (show St w I (row b 106 [.pointer (some ⟨b, 0, none⟩), vb] :: F) w' from hw)⟩
  · skip
    have hp0 : p = some ⟨b, 0, none⟩ := by rcases hp with rfl | h; cases hc0; exact h
    subst hp0
    refine t_seq ?_
    refine t_region ?_
    refine l_q rfl rfl rfl (q_move rfl rfl) ?_
    refine l_q rfl rfl rfl (q_nilCheck rfl rfl) ?_
    refine l_q rfl rfl rfl (q_fieldAddr rfl Tryz.underlying106 rfl rfl ti103 rfl rfl) ?_
    refine l_q rfl rfl rfl (q_load_row rfl Tryz.underlying103 rfl rfl (by rfl)) ?_
    refine l_q rfl rfl rfl (q_move rfl rfl) ?_
    refine l_q rfl rfl rfl (q_neq_psame rfl Tryz.underlying103 ti106 rfl rfl) ?_
    refine l_nil ?_
    refine n_then ?_
    refine t_cond rfl (fun hc1 => ?_) (fun hc1 => ?_)
    · skip
      try simp at hc1
    · skip
      try simp at hc1
      refine t_skip ?_
      refine n_end0 rfl (fun w' hw => ?_)
      -- leaf 1
      exact ⟨_, rfl, I, _, ⟨rfl, rfl⟩, (show St w I (row b 106 [.pointer (some ⟨b, 0, none⟩), vb] :: F) w' from hw)⟩
set_option maxRecDepth 10000 in
theorem builderString_calls (b : Nat) (p : Value) (vb : Value) (l : List UInt8) (I : Look) (F : List HA) (w0 w : World) (hok : BufOk vb l) (hl : l.length ≤ 9223372036854775807) (hw0 : St w0 I (row b 106 [p, vb] :: tvec 5 1 byC vb l :: F) w) : Calls Tryz.prog 44 [.pointer (some ⟨b, 0, none⟩)].toArray w (fun e w' => ∃ v, e = .returned v ∧ ∃ I' H', (v = str l ∧ I = I' ∧ H' = F) ∧ St w I' H' w') := by
  refine enter Tryz.func44 rfl Tryz.ntmps44 rfl (hw0.self) ?_
  refine t_seq ?_
  refine t_region ?_
  refine l_q rfl rfl rfl (q_assign rfl rfl) ?_
  refine l_nil ?_
  refine n_then ?_
  refine t_seq ?_
  refine t_draw [10] [] [row b 106 [p, vb]] mo (by kernel_rfl) (fun _ _ _ _ _ h => h) ?_
  refine r_q1 0 (by kernel_rfl) rfl (Le.refl _) rfl rfl rfl (q_move rfl rfl) ?_
  refine r_q1 1 (by kernel_rfl) rfl (Le.refl _) rfl rfl rfl (q_nilCheck rfl rfl) ?_
  refine r_q1 2 (by kernel_rfl) rfl (Le.refl _) rfl rfl rfl (q_fieldAddr rfl Tryz.underlying106 rfl rfl ti104 rfl rfl) ?_
  refine r_q1 3 (by kernel_rfl) rfl (Le.refl _) rfl rfl rfl (q_load_row rfl Tryz.underlying104 rfl rfl (by rfl)) ?_
  refine r_q1 4 (by kernel_rfl) rfl (Le.refl _) rfl rfl rfl (q_sliceData (ty := 0) rfl rfl hok) ?_
  refine r_q1 5 (by kernel_rfl) rfl (Le.refl _) rfl rfl rfl (q_move rfl rfl) ?_
  refine r_q1 6 (by kernel_rfl) rfl (Le.refl _) rfl rfl rfl (q_nilCheck rfl rfl) ?_
  refine r_q1 7 (by kernel_rfl) rfl (Le.refl _) rfl rfl rfl (q_fieldAddr rfl Tryz.underlying106 rfl rfl ti104 rfl rfl) ?_
  refine r_q1 8 (by kernel_rfl) rfl (Le.refl _) rfl rfl rfl (q_load_row rfl Tryz.underlying104 rfl rfl (by rfl)) ?_
  refine r_q1 9 (by kernel_rfl) rfl (Le.refl _) rfl rfl rfl ((by first | exact q_lenV rfl Tryz.underlying104 rfl | exact q_len rfl Tryz.underlying104 rfl (Sl.len ‹_›))) ?_
  refine r_e 10 (by kernel_rfl) (by kernel_rfl) rfl (Le.refl _) rfl rfl rfl (e_unsafeString rfl Tryz.underlying150 (by kernel_rfl) rfl rfl rfl hok (by omega)) ?_
  rintro _ _ _ ⟨rfl, rfl, rfl⟩
  refine ⟨Le.refl _, .inr SubC.sub, ?_⟩
  refine r_q0 11 (by kernel_rfl) rfl (Le.refl _) rfl rfl rfl (fun _ hI => q_assign rfl rfl) ?_
  refine r_end (by kernel_rfl) ?_
  refine n_then ?_
  refine t_ret ?_
  refine n_ret1 rfl rfl (fun w' hw => ?_)
  -- leaf 0
  exact ⟨_, rfl, I, _, ⟨rfl, rfl, rfl⟩, subC_st hw⟩
end Go.Tri
