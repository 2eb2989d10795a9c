/-
  The writer: its small steps.
-/
import Derived.Test.YtomcodpgickmgaaGreatDoorQE3
namespace Go.Tri
open Go.Proofs Go.RowKit
/-- what a writer's method does: it writes a text more, and is not bad -/
def WrPost (b : Nat) (L out : List UInt8) (I : Look) (F : List HA) (v : Value) (I' : Look) (H' : List HA) : Prop :=
  v = .tuple #[] ∧ Le I I' ∧ ∃ p vb L', (p = none ∨ p = some ⟨b, 0, none⟩) ∧ BufOk vb L' ∧ L' = L ++ out ∧ H' = row b 72 [.pointer p, vb, nilS', .bool false] :: tvec 5 1 byC vb L' :: F
theorem vec_shape' {w0 w : World} {I : Look} {F : List HA} {T : TypeId} {sz n : Nat} {v : Value} {xs : List Value} (h : St w0 I (vec v T sz n xs :: F) w) : ∃ A c, v = .slice A n c := by
  obtain ⟨_, hh⟩ := h.sat _ List.mem_cons_self
  rcases hh with ⟨rfl, rfl⟩ | ⟨g, cap, cur, rfl, _⟩
  · exact ⟨_, _, rfl⟩
  · exact ⟨_, _, rfl⟩
theorem vec_shape {w0 w : World} {I : Look} {F : List HA} {T : TypeId} {sz : Nat} {α : Type} {f : α → List Value} {v : Value} {l : List α} (h : St w0 I (tvec T sz f v l :: F) w) : ∃ A c, v = .slice A l.length c := by
  exact vec_shape' (v := v) (T := T) (sz := sz) (n := l.length) (xs := (l.map f).flatten) h
theorem flat_snoc {l : List (List UInt8)} {i : Nat} (h : i < l.length) : (l.take (i + 1)).flatten = (l.take i).flatten ++ nth l i [] := by
  rw [take_nth [] h, List.flatten_append]; simp
theorem flat_le (l : List (List UInt8)) (i : Nat) : (l.take i).flatten.length ≤ l.flatten.length := by
  conv => rhs; rw [← List.take_append_drop i l, List.flatten_append, List.length_append]
  omega
set_option maxRecDepth 10000 in
theorem wcopyCheck_calls (b : Nat) (p : Option Addr) (vb : Value) (I : Look) (F : List HA) (w0 w : World) (hp : p = none ∨ p = some ⟨b, 0, none⟩) (hw0 : St w0 I (row b 72 [.pointer p, vb, nilS', .bool false] :: F) w) : Calls Tryz.prog 86 [.pointer (some ⟨b, 0, none⟩)].toArray w (fun e w' => ∃ v, e = .returned v ∧ ∃ I' H', (I = I' ∧ H' = row b 72 [.pointer (some ⟨b, 0, none⟩), vb, nilS', .bool false] :: F) ∧ St w I' H' w') := by
  refine enter Tryz.func86 rfl Tryz.ntmps86 rfl (hw0.self) ?_
  refine t_seq ?_
  refine t_region ?_
  refine l_q rfl rfl rfl (q_move rfl rfl) ?_
  refine l_q rfl rfl rfl (q_nilCheck rfl rfl) ?_
  refine l_q rfl rfl rfl (q_fieldAddr rfl Tryz.underlying69 rfl rfl ti66 rfl rfl) ?_
  refine l_q rfl rfl rfl (q_load_row rfl Tryz.underlying66 rfl rfl (by rfl)) ?_
  refine l_q rfl rfl rfl (q_eql_pnil rfl (by kernel_rfl) rfl rfl) ?_
  refine l_nil ?_
  refine n_then ?_
  refine t_cond rfl (fun hc0 => ?_) (fun hc0 => ?_)
  · skip
    have hp0 : p = none := Option.isNone_iff_eq_none.1 hc0
    subst hp0
    refine t_region ?_
    refine l_q rfl rfl rfl (q_move rfl rfl) ?_
    refine l_q rfl rfl rfl (q_move rfl rfl) ?_
    refine l_q rfl rfl rfl (q_toUnsafe rfl Tryz.underlying66 Tryz.underlying142 ti69 rfl rfl rfl) ?_
    refine l_q rfl rfl rfl (quiet_extern rfl rfl rfl Tryz.func111 (by kernel_rfl) rfl (by kernel_rfl) (show Extern.find _ = some Extern.AbiNoEscape.same by kernel_rfl) (fun w => Lib.run_noEscape w _)) ?_
    refine l_q rfl rfl rfl (q_fromUnsafe rfl Tryz.underlying142 Tryz.underlying66 ti69 rfl (by kernel_rfl)) ?_
    refine l_q rfl rfl rfl (q_nilCheck rfl rfl) ?_
    refine l_q rfl rfl rfl (q_fieldAddr rfl Tryz.underlying69 rfl rfl ti66 rfl rfl) ?_
    refine l_e0 rfl rfl (e_storeS rfl ti66 rfl rfl (by first | exact ⟨rfl, rfl⟩ | assumption) rfl (by first | (simp only [List.set_cons_succ, List.set_cons_zero]; rfl) | rfl)) ?_
    rintro _ _ _ ⟨rfl, rfl⟩
    refine l_nil ?_
    refine n_end0 rfl (fun w' hw => ?_)
    -- leaf 0
    exact ⟨_, rfl, I, _, ⟨rfl, rfl⟩, (show St w I (row b 72 [.pointer (some ⟨b, 0, none⟩), vb, nilS', .bool false] :: F) w' from hw)⟩
  · skip
    have hp0 : p = some ⟨b, 0, none⟩ := by rcases hp with rfl | h; cases hc0; exact h
    subst hp0
    refine t_seq ?_
    refine t_region ?_
    refine l_q rfl rfl rfl (q_move rfl rfl) ?_
    refine l_q rfl rfl rfl (q_nilCheck rfl rfl) ?_
    refine l_q rfl rfl rfl (q_fieldAddr rfl Tryz.underlying69 rfl rfl ti66 rfl rfl) ?_
    refine l_q rfl rfl rfl (q_load_row rfl Tryz.underlying66 rfl rfl (by rfl)) ?_
    refine l_q rfl rfl rfl (q_move rfl rfl) ?_
    refine l_q rfl rfl rfl (q_neq_psame rfl Tryz.underlying66 ti69 rfl rfl) ?_
    refine l_nil ?_
    refine n_then ?_
    refine t_cond rfl (fun hc1 => ?_) (fun hc1 => ?_)
    · skip
      try simp at hc1
    · skip
      try simp at hc1
      refine t_skip ?_
      refine n_end0 rfl (fun w' hw => ?_)
      -- leaf 1
      exact ⟨_, rfl, I, _, ⟨rfl, rfl⟩, (show St w I (row b 72 [.pointer (some ⟨b, 0, none⟩), vb, nilS', .bool false] :: F) w' from hw)⟩
set_option maxRecDepth 10000 in
theorem wwriteStringB_calls (b : Nat) (p : Option Addr) (vb : Value) (l s : List UInt8) (I : Look) (F : List HA) (w0 w : World) (hp : p = none ∨ p = some ⟨b, 0, none⟩) (hl : l.length + s.length ≤ 140737488355000) (hw0 : St w0 I (row b 72 [.pointer p, vb, nilS', .bool false] :: tvec 5 1 byC vb l :: F) w) : Calls Tryz.prog 64 [.pointer (some ⟨b, 0, none⟩), str s].toArray w (fun e w' => ∃ v, e = .returned v ∧ ∃ I' H', (v = .tuple #[.int .i64 (s.length : Int), .nilIface] ∧ I = I' ∧ ∃ vb', H' = row b 72 [.pointer (some ⟨b, 0, none⟩), vb', nilS', .bool false] :: tvec 5 1 byC vb' (l ++ s) :: F ∧ (BufOk vb l → BufOk vb' (l ++ s))) ∧ St w I' H' w') := by
  refine enter Tryz.func64 rfl Tryz.ntmps64 rfl (hw0.self) ?_
  refine t_seq ?_
  refine t_region ?_
  refine l_q rfl rfl rfl (q_assign rfl rfl) ?_
  refine l_q rfl rfl rfl (q_assign rfl rfl) ?_
  refine l_nil ?_
  refine n_then ?_
  refine t_seq ?_
  refine t_region ?_
  refine l_q rfl rfl rfl (q_move rfl rfl) ?_
  refine l_e rfl rfl rfl (eff_call rfl rfl rfl Tryz.func86 (by kernel_rfl) rfl (fun w hw => wcopyCheck_calls b p vb _ _ _ w hp (picks_st1 (row b 72 [.pointer p, vb, nilS', .bool false]) hw))) ?_
  rintro _ _ _ ⟨rfl, rfl⟩
  refine l_nil ?_
  refine n_then ?_
  refine t_seq ?_
  refine t_region ?_
  refine l_q rfl rfl rfl (q_move rfl rfl) ?_
  refine l_q rfl rfl rfl (q_move rfl rfl) ?_
  refine l_q rfl rfl rfl (q_nilCheck rfl rfl) ?_
  refine l_q rfl rfl rfl (q_fieldAddr rfl Tryz.underlying69 rfl rfl ti67 rfl rfl) ?_
  refine l_q rfl rfl rfl (q_load_row rfl Tryz.underlying67 rfl rfl (by rfl)) ?_
  refine l_q rfl rfl rfl (q_move rfl rfl) ?_
  refine l_e rfl rfl rfl (e_appendStrN rfl Tryz.underlying67 Tryz.underlying9 ti5 rfl rfl rfl (by simp only [maxLen]; omega) (by omega)) ?_
  rintro v14 _ _ ⟨rfl, rfl, hbo14⟩
  refine l_one v14 (fun hone => ?_)
  refine l_q rfl rfl rfl (q_nilCheck rfl rfl) ?_
  refine l_q rfl rfl rfl (q_fieldAddr rfl Tryz.underlying69 rfl rfl ti67 rfl rfl) ?_
  refine l_e0 rfl rfl (e_storeS rfl ti67 rfl rfl (by first | exact ⟨rfl, rfl⟩ | assumption | exact hone) rfl (by first | (simp only [List.set_cons_succ, List.set_cons_zero]; rfl) | rfl)) ?_
  rintro _ _ _ ⟨rfl, rfl⟩
  refine l_nil ?_
  refine n_then ?_
  refine t_seq ?_
  refine t_region ?_
  refine l_q rfl rfl rfl (q_move rfl rfl) ?_
  refine l_q rfl rfl rfl (q_len_str rfl Tryz.underlying9 rfl) ?_
  refine l_q rfl rfl rfl (q_assign rfl rfl) ?_
  refine l_q rfl rfl rfl (q_assign rfl rfl) ?_
  refine l_nil ?_
  refine n_then ?_
  refine t_ret ?_
  refine n_ret2 rfl rfl rfl (fun w' hw => ?_)
  -- leaf 0
  have hw2 : St w I (row b 72 [.pointer (some ⟨b, 0, none⟩), v14, nilS', .bool false] :: tvec 5 1 byC v14 (l ++ s) :: F) w' := hw
  exact ⟨_, rfl, I, _, ⟨rfl, rfl, v14, rfl, hbo14⟩, hw2⟩
set_option maxRecDepth 10000 in
theorem wbuilderString_calls (b : Nat) (p : Value) (vb : Value) (l : List UInt8) (I : Look) (F : List HA) (w0 w : World) (hok : BufOk vb l) (hl : l.length ≤ 9223372036854775807) (hw0 : St w0 I (row b 72 [p, vb, nilS', .bool false] :: tvec 5 1 byC vb l :: F) w) : Calls Tryz.prog 29 [.pointer (some ⟨b, 0, none⟩)].toArray w (fun e w' => ∃ v, e = .returned v ∧ ∃ I' H', (v = str l ∧ I = I' ∧ H' = row b 72 [p, vb, nilS', .bool false] :: F) ∧ St w I' H' w') := by
  refine enter Tryz.func29 rfl Tryz.ntmps29 rfl (hw0.self) ?_
  refine t_seq ?_
  refine t_region ?_
  refine l_q rfl rfl rfl (q_assign rfl rfl) ?_
  refine l_nil ?_
  refine n_then ?_
  refine t_seq ?_
  refine t_draw [10] [] [row b 72 [p, vb, nilS', .bool false]] mo (by kernel_rfl) (fun _ _ _ _ _ h => h) ?_
  refine r_q1 0 (by kernel_rfl) rfl (Le.refl _) rfl rfl rfl (q_move rfl rfl) ?_
  refine r_q1 1 (by kernel_rfl) rfl (Le.refl _) rfl rfl rfl (q_nilCheck rfl rfl) ?_
  refine r_q1 2 (by kernel_rfl) rfl (Le.refl _) rfl rfl rfl (q_fieldAddr rfl Tryz.underlying69 rfl rfl ti67 rfl rfl) ?_
  refine r_q1 3 (by kernel_rfl) rfl (Le.refl _) rfl rfl rfl (q_load_row rfl Tryz.underlying67 rfl rfl (by rfl)) ?_
  refine r_q1 4 (by kernel_rfl) rfl (Le.refl _) rfl rfl rfl (q_sliceData (ty := 0) rfl rfl hok) ?_
  refine r_q1 5 (by kernel_rfl) rfl (Le.refl _) rfl rfl rfl (q_move rfl rfl) ?_
  refine r_q1 6 (by kernel_rfl) rfl (Le.refl _) rfl rfl rfl (q_nilCheck rfl rfl) ?_
  refine r_q1 7 (by kernel_rfl) rfl (Le.refl _) rfl rfl rfl (q_fieldAddr rfl Tryz.underlying69 rfl rfl ti67 rfl rfl) ?_
  refine r_q1 8 (by kernel_rfl) rfl (Le.refl _) rfl rfl rfl (q_load_row rfl Tryz.underlying67 rfl rfl (by rfl)) ?_
  refine r_q1 9 (by kernel_rfl) rfl (Le.refl _) rfl rfl rfl ((by first | exact q_lenV rfl Tryz.underlying67 rfl | exact q_len rfl Tryz.underlying67 rfl (Sl.len ‹_›))) ?_
  refine r_e 10 (by kernel_rfl) (by kernel_rfl) rfl (Le.refl _) rfl rfl rfl (e_unsafeString rfl Tryz.underlying89 (by kernel_rfl) rfl rfl rfl hok (by omega)) ?_
  rintro _ _ _ ⟨rfl, rfl, rfl⟩
  refine ⟨Le.refl _, .inr SubC.sub, ?_⟩
  refine r_q0 11 (by kernel_rfl) rfl (Le.refl _) rfl rfl rfl (fun _ hI => q_assign rfl rfl) ?_
  refine r_end (by kernel_rfl) ?_
  refine n_then ?_
  refine t_ret ?_
  refine n_ret1 rfl rfl (fun w' hw => ?_)
  -- leaf 0
  exact ⟨_, rfl, I, _, ⟨rfl, rfl, rfl⟩, subC_st hw⟩
set_option maxRecDepth 10000 in
theorem wlen_pure (b : Nat) (p : Option Addr) (vb : Value) (n : Nat) (w : World) (hb : RowI (look w) b [.pointer p, vb, nilS', .bool false]) (hv : ∃ A c, vb = .slice A n c) : Pure Tryz.prog 71 [pAt b] w (.int .i64 (n : Int)) := by
  refine enter Tryz.func71 rfl Tryz.ntmps71 rfl (St.start w (look w) (Le.refl _)) ?_
  refine t_seq ?_
  refine t_region ?_
  refine l_q rfl rfl rfl (q_assign rfl rfl) ?_
  refine l_nil ?_
  refine n_then ?_
  refine t_seq ?_
  refine t_region ?_
  refine l_q rfl rfl rfl (q_move rfl rfl) ?_
  refine l_q rfl rfl rfl (q_nilCheck rfl rfl) ?_
  refine l_q rfl rfl rfl (q_fieldAddr rfl Tryz.underlying69 rfl rfl ti67 rfl rfl) ?_
  refine l_q rfl rfl rfl ((by first | exact q_load_row rfl Tryz.underlying67 rfl rfl (by rfl) | exact q_load rfl Tryz.underlying67 rfl rfl (rd_imm (hb 1 _ rfl)))) ?_
  refine l_q rfl rfl rfl ((by first | exact q_lenV rfl Tryz.underlying67 rfl | exact q_len rfl Tryz.underlying67 rfl (hv))) ?_
  refine l_q rfl rfl rfl (q_assign rfl rfl) ?_
  refine l_nil ?_
  refine n_then ?_
  refine t_ret ?_
  refine n_ret1 rfl rfl (fun w' hw => ?_)
  -- leaf 0
  exact ⟨rfl, hw.below⟩
set_option maxRecDepth 10000 in
theorem wput_calls (b : Nat) (av : Value) (xs : List (List UInt8)) (p0 : Option Addr) (vb0 : Value) (L0 : List UInt8) (I : Look) (F : List HA) (w0 w : World) (hp0 : p0 = none ∨ p0 = some ⟨b, 0, none⟩) (hbo0 : BufOk vb0 L0) (hl : L0.length + xs.flatten.length ≤ 131072) (hx : Sl I 1 av (xs.map stC)) (hxl : xs.length ≤ 1000) (hw0 : St w0 I (row b 72 [.pointer p0, vb0, nilS', .bool false] :: tvec 5 1 byC vb0 L0 :: F) w) : Calls Tryz.prog 42 [pAt b, av].toArray w (fun e w' => ∃ v, e = .returned v ∧ ∃ I' H', WrPost b L0 xs.flatten I F v I' H' ∧ St w I' H' w') := by
  refine enter Tryz.func42 rfl Tryz.ntmps42 rfl (hw0.self) ?_
  refine t_seq ?_
  refine t_seq ?_
  refine t_region ?_
  refine l_q rfl rfl rfl (q_move rfl rfl) ?_
  refine l_q rfl rfl rfl ((by first | exact q_lenV rfl Tryz.underlying25 rfl | exact q_len rfl Tryz.underlying25 rfl (Sl.lenOf hx (List.length_map _)))) ?_
  refine l_q rfl rfl rfl (q_move rfl rfl) ?_
  refine l_nil ?_
  refine n_then ?_
  refine t_block ?_
  refine t_loopE (ι := Nat × Option Addr × Value × List UInt8) (fun zz => zz.1 ≤ xs.length ∧ (zz.2.1 = none ∨ zz.2.1 = some ⟨b, 0, none⟩) ∧ BufOk zz.2.2.1 zz.2.2.2 ∧ zz.2.2.2 = L0 ++ (xs.take zz.1).flatten) (fun zz => xs.length - zz.1) (fun zz => [(8, .int .i64 (zz.1 : Int))]) [(0, _), (1, _), (6, _), (7, _)] (fun zz => I) (fun zz => (row b 72 [.pointer zz.2.1, zz.2.2.1, nilS', .bool false] :: tvec 5 1 byC zz.2.2.1 zz.2.2.2 :: F)) (0, p0, vb0, L0) ?_ (sub_cons rfl sub_nil) (sub_cons rfl (sub_cons rfl (sub_cons rfl (sub_cons rfl sub_nil)))) (fun _ h => subC_st h) ?_
  · try dsimp only
    exact ⟨Nat.zero_le _, hp0, hbo0, by simp⟩
  rintro ⟨i, p, vb, L⟩ ⟨hi, hp, hbo, hLx⟩
  try dsimp only at *
  refine t_seq ?_
  refine t_region ?_
  refine l_q rfl rfl rfl (q_lss rfl rfl rfl) ?_
  refine l_nil ?_
  refine n_then ?_
  refine t_seq ?_
  refine t_cond rfl (fun hc0 => ?_) (fun hc0 => ?_)
  · skip
    try simp at hc0
    have hsn := flat_snoc (l := xs) (i := i) (by omega)
    have hft := flat_le xs (i + 1)
    have hsl := congrArg List.length hsn
    have hlx := congrArg List.length hLx
    simp only [List.length_append] at hsl hlx
    refine t_skip ?_
    refine n_then ?_
    refine t_seq ?_
    refine t_block ?_
    refine t_seq ?_
    refine t_region ?_
    refine l_q rfl rfl rfl ((by first | exact q_indexAddrVN rfl Tryz.underlying25 ti9 rfl rfl (by omega) | exact q_indexAddrN rfl Tryz.underlying25 ti9 rfl rfl (Sl.shape hx (List.length_map _)) (by omega) | exact q_indexAddrV rfl Tryz.underlying25 ti9 rfl rfl (by omega) | exact q_indexAddr rfl Tryz.underlying25 ti9 rfl rfl (Sl.shape hx (List.length_map _)) (by omega))) ?_
    refine l_q rfl rfl rfl ((by first | exact q_load_row rfl Tryz.underlying9 rfl rfl (by rfl) | exact q_load rfl Tryz.underlying9 rfl rfl (rd_st (i := i) hx (by omega)))) ?_
    refine l_q rfl rfl rfl (q_assign rfl rfl) ?_
    refine l_nil ?_
    refine n_then ?_
    refine t_region ?_
    refine l_q rfl rfl rfl (q_move rfl rfl) ?_
    refine l_q rfl rfl rfl (q_nilCheck rfl rfl) ?_
    refine l_q rfl rfl rfl (q_fieldAddr rfl Tryz.underlying72 rfl rfl ti69 rfl rfl) ?_
    refine l_q rfl rfl rfl (q_move rfl rfl) ?_
    refine l_e rfl rfl rfl (eff_call rfl rfl rfl Tryz.func64 (by kernel_rfl) rfl (fun w hw => wwriteStringB_calls b p vb L (nth xs i []) _ _ _ w hp (by omega) (picks_st2 (row b 72 [.pointer p, vb, nilS', .bool false]) (tvec 5 1 byC vb L) hw))) ?_
    rintro _ _ _ ⟨rfl, rfl, vb, rfl, hbo2⟩
    have hbo := hbo2 hbo
    refine l_nil ?_
    refine n_block ?_
    refine n_then ?_
    refine t_region ?_
    refine l_q rfl rfl rfl (q_add64 rfl rfl rfl (by omega)) ?_
    refine l_q rfl rfl rfl (q_move rfl rfl) ?_
    refine l_nil ?_
    refine n_roundE ((i + 1, some ⟨b, 0, none⟩, vb, L ++ nth xs i [])) ?_ ?_ (sub_cons rfl sub_nil) (sub_cons rfl (sub_cons rfl (sub_cons rfl (sub_cons rfl sub_nil)))) (fun _ h => by try dsimp only; exact subC_st h)
    · try dsimp only
      exact ⟨by omega, .inr rfl, hbo, by rw [hsn, hLx, List.append_assoc]⟩
    · try dsimp only
      show xs.length - (i + 1) < xs.length - i
      omega
  · skip
    try simp at hc0
    rw [List.take_of_length_le (by omega)] at hLx
    refine t_exit ?_
    refine n_exit_then ?_
    refine n_exit_then ?_
    refine n_exit_block ?_
    refine n_then ?_
    refine t_region ?_
    refine l_quietHead 12 ?_
    refine s_q rfl rfl rfl (q_move rfl rfl) ?_
    refine s_q rfl rfl rfl (q_move rfl rfl) ?_
    refine s_q rfl rfl rfl (q_nilCheck rfl rfl) ?_
    refine s_q rfl rfl rfl (q_fieldAddr rfl Tryz.underlying72 rfl rfl ti4 rfl rfl) ?_
    refine s_q rfl rfl rfl ((by first | exact q_load_row rfl Tryz.underlying4 rfl rfl (by rfl) | exact q_load rfl Tryz.underlying4 rfl rfl (rd_st (i := i) hx (by omega)))) ?_
    refine s_q rfl rfl rfl (q_move rfl rfl) ?_
    refine s_or2 5 5 23 29 28 _ _ rfl rfl rfl rfl rfl rfl (fun h29 => by
        try simp at h29
        refine s_g rfl rfl rfl rfl rfl rfl (q_move rfl rfl) ?_
        refine s_g rfl rfl rfl rfl rfl rfl (q_nilCheck rfl rfl) ?_
        refine s_g rfl rfl rfl rfl rfl rfl (q_fieldAddr rfl Tryz.underlying72 rfl rfl ti69 rfl rfl) ?_
        refine s_g rfl rfl rfl rfl rfl rfl (quiet_call rfl rfl rfl Tryz.func71 (by kernel_rfl) rfl ((fun w hw => wlen_pure b p vb L.length w (rowI_of hw) (vec_shape (picks_st1 (tvec 5 1 byC vb L) hw))))) ?_
        refine s_g rfl rfl rfl rfl rfl rfl (q_gtr rfl rfl rfl) ?_
        rw [decide_eq_false (show ¬ (131072 : Int) < (L.length : Int) by rw [hLx, List.length_append]; omega)]
        exact s_val rfl
      ) (wanted_n rfl) rfl rfl rfl ?_
    refine s_list ?_
    refine l_q rfl rfl rfl (q_nilCheck rfl rfl) ?_
    refine l_q rfl rfl rfl (q_fieldAddr rfl Tryz.underlying72 rfl rfl ti4 rfl rfl) ?_
    refine l_e0 rfl rfl (e_storeS rfl ti4 rfl rfl (by first | exact ⟨rfl, rfl⟩ | assumption) rfl (by first | (simp only [List.set_cons_succ, List.set_cons_zero]; rfl) | rfl)) ?_
    rintro _ _ _ ⟨rfl, rfl⟩
    refine l_heap (H' := row b 72 [.pointer p, vb, nilS', .bool false] :: _) ?_ (fun _ h => h)
    refine l_nil ?_
    refine n_end0 rfl (fun w' hw => ?_)
    -- leaf 0
    exact ⟨_, rfl, I, _, ⟨rfl, Le.refl _, p, vb, L, hp, hbo, hLx, rfl⟩, subC_st hw⟩
end Go.Tri

/-
  The writer: lines, words, lists.
-/
namespace Go.Tri
open Go.Proofs Go.RowKit
theorem join_pure (wv : Value) (ws : List (List UInt8)) (w : World) (hne : ws ≠ []) (hn : ws.length ≤ 100000) (hl : (Lib.join ws [32]).length ≤ 1000000) (hv : Sl (look w) 1 wv (ws.map stC)) : Pure Tryz.prog 66 [wv, str [32]] w (str (Lib.join ws [32])) := by
  obtain ⟨⟨Ad, c, rfl, hc, hsp, hAd⟩, hcells⟩ := hv
  have hne' : ws.map stC ≠ [] := fun h => hne (List.map_eq_nil_iff.1 h)
  cases Ad with
  | none => exact absurd rfl (hAd hne')
  | some ad =>
    obtain ⟨bk, o, sp⟩ := ad
    have hs0 : sp = none := hsp hne' _ rfl
    subst hs0
    have hget : ∀ (j : Nat) x, (ws.map fun l => (⟨l.toArray⟩ : ByteArray))[j]? = some x → w.cell? ⟨bk, o + j, none⟩ = some (.string x) := fun j x hj => by
      rw [List.getElem?_map] at hj
      cases hj2 : ws[j]? with
      | none => rw [hj2] at hj; cases hj
      | some t =>
        rw [hj2] at hj
        cases hj
        have := hcells j 0 (stC t) (str t) (by rw [List.getElem?_map, hj2]; rfl) rfl
        obtain ⟨cur, U, fr, h1, h2⟩ := this
        have h1 : w.heap[bk]? = some (.cells cur U fr) := h1
        unfold World.cell?
        rw [h1]
        have e : o + j * 1 + 0 = o + j := by omega
        rw [show (adr (Value.slice (some ⟨bk, o, none⟩) (ws.map stC).length c)).off = o from rfl, e] at h2
        simpa [str] using h2
    have hbk : bk < w.heap.size := by
      obtain ⟨t, r, rfl⟩ := List.exists_cons_of_ne_nil hne
      have := hget 0 _ rfl
      unfold World.cell? at this
      cases hb : w.heap[bk]? with
      | none => rw [hb] at this; cases this
      | some _ => exact lt_of_some hb
    have hm : (ws.map fun l => (⟨l.toArray⟩ : ByteArray)).map (fun y => y.data.toList) = ws := by
      rw [List.map_map]
      conv => rhs; rw [← List.map_id ws]
      refine List.map_congr_left fun l _ => ?_
      simp
    have hJ := Tryz.strings_Join bk o c (ws.map fun l => (⟨l.toArray⟩ : ByteArray)) ⟨#[32]⟩ w hget hbk (by rw [List.length_map]; omega) (by rw [List.length_map]; rw [List.length_map] at hc; exact hc) (by rw [hm]; exact Nat.le_trans hl (by decide))
    rw [hm, List.length_map] at hJ
    rw [List.length_map]
    exact hJ.mono fun e w' ⟨h1, h2⟩ => ⟨h1, h2⟩
set_option maxRecDepth 10000 in
theorem wall_calls (b : Nat) (p : Option Addr) (vb : Value) (I : Look) (F : List HA) (w0 w : World) (hw0 : St w0 I (row b 72 [.pointer p, vb, nilS', .bool false] :: F) w) : Calls Tryz.prog 43 [.pointer (some ⟨b, 2, none⟩)].toArray w (fun e w' => ∃ v, e = .returned v ∧ ∃ I' H', (v = nilS' ∧ I = I' ∧ H' = row b 72 [.pointer p, vb, nilS', .bool false] :: F) ∧ St w I' H' w') := by
  refine enter Tryz.func43 rfl Tryz.ntmps43 rfl (hw0.self) ?_
  refine t_seq ?_
  refine t_region ?_
  refine l_q rfl rfl rfl (q_assign rfl rfl) ?_
  refine l_nil ?_
  refine n_then ?_
  refine t_seq ?_
  refine t_region ?_
  refine l_q rfl rfl rfl (q_move rfl rfl) ?_
  refine l_q rfl rfl rfl (q_nilCheck rfl rfl) ?_
  refine l_q rfl rfl rfl (q_load_row rfl Tryz.underlying70 rfl rfl (by rfl)) ?_
  refine l_q rfl rfl rfl (q_assign rfl rfl) ?_
  refine l_nil ?_
  refine n_then ?_
  refine t_seq ?_
  refine t_region ?_
  refine l_q rfl rfl rfl (q_move rfl rfl) ?_
  refine l_q rfl rfl rfl (q_nilCheck rfl rfl) ?_
  refine l_e0 rfl rfl (e_storeS rfl ti70 rfl rfl (by first | exact ⟨rfl, rfl⟩ | assumption | exact nil_one) rfl (by first | (simp only [List.set_cons_succ, List.set_cons_zero]; rfl) | rfl)) ?_
  rintro _ _ _ ⟨rfl, rfl⟩
  refine l_heap (H' := row b 72 [.pointer p, vb, nilS', .bool false] :: _) ?_ (fun _ h => h)
  refine l_nil ?_
  refine n_then ?_
  refine t_seq ?_
  refine t_region ?_
  refine l_q rfl rfl rfl (q_move rfl rfl) ?_
  refine l_q rfl rfl rfl (q_assign rfl rfl) ?_
  refine l_nil ?_
  refine n_then ?_
  refine t_ret ?_
  refine n_ret1 rfl rfl (fun w' hw => ?_)
  -- leaf 0
  exact ⟨_, rfl, I, _, ⟨rfl, rfl, rfl⟩, subC_st hw⟩
set_option maxRecDepth 10000 in
theorem wline_calls (b : Nat) (p : Option Addr) (vb : Value) (L : List UInt8) (I : Look) (F : List HA) (w0 w : World) (hp : p = none ∨ p = some ⟨b, 0, none⟩) (hbo : BufOk vb L) (hl : L.length + 1 ≤ 131072) (hw0 : St w0 I (row b 72 [.pointer p, vb, nilS', .bool false] :: tvec 5 1 byC vb L :: F) w) : Calls Tryz.prog 28 [pAt b].toArray w (fun e w' => ∃ v, e = .returned v ∧ ∃ I' H', WrPost b L [10] I F v I' H' ∧ St w I' H' w') := by
  have hLe := Le.refl I
  refine enter Tryz.func28 rfl Tryz.ntmps28 rfl (hw0.self) ?_
  refine t_seq ?_
  refine t_region ?_
  refine l_q rfl rfl rfl (q_move rfl rfl) ?_
  refine l_e rfl rfl rfl (e_buildSlice1 rfl Tryz.underlying25 ti9 rfl rfl rfl (by first | exact One.cells (by assumption) | rfl) rfl) ?_
  rintro _ _ _ ⟨b3, rfl, rfl, rfl⟩
  refine l_heap (H' := tvec 9 1 stC (.slice (some ⟨b3, 0, none⟩) 1 1) [[10]] :: _) ?_ (fun _ h => st_rowVec h rfl (by decide))
  refine l_freezeT (f := stC) (l := [[10]]) (.slice (some ⟨b3, 0, none⟩) 1 1) (fun _ => rfl) (fun Jf hJf hvf => ?_)
  have hLe := hLe.trans hJf
  refine l_e rfl rfl rfl (eff_call rfl rfl rfl Tryz.func42 (by kernel_rfl) rfl (fun w hw => wput_calls b (.slice (some ⟨b3, 0, none⟩) 1 1) [[10]] p vb L _ _ _ w hp hbo (by simp only [List.flatten_cons, List.flatten_nil, List.length_append, List.length_nil, List.length_cons]; omega) hvf (by simp) (picks_st2 (row b 72 [.pointer p, vb, nilS', .bool false]) (tvec 5 1 byC vb L) hw))) ?_
  rintro _ J _ ⟨rfl, hJ, p, vb, L, hp, hbo, hL4, rfl⟩
  have hLe := hLe.trans hJ
  have hl4 := congrArg List.length hL4
  simp only [List.length_append, List.length_cons, List.length_nil, List.flatten_cons, List.flatten_nil] at hl4
  refine l_nil ?_
  refine n_then ?_
  refine t_region ?_
  refine l_q rfl rfl rfl (q_move rfl rfl) ?_
  refine l_q rfl rfl rfl (q_move rfl rfl) ?_
  refine l_q rfl rfl rfl (q_nilCheck rfl rfl) ?_
  refine l_q rfl rfl rfl (q_fieldAddr rfl Tryz.underlying72 rfl rfl ti70 rfl rfl) ?_
  refine l_e rfl rfl rfl (eff_call rfl rfl rfl Tryz.func43 (by kernel_rfl) rfl (fun w hw => wall_calls b p vb _ _ _ w (picks_st1 (row b 72 [.pointer p, vb, nilS', .bool false]) hw))) ?_
  rintro _ _ _ ⟨rfl, rfl, rfl⟩
  refine l_e rfl rfl rfl (eff_call rfl rfl rfl Tryz.func42 (by kernel_rfl) rfl (fun w hw => wput_calls b nilS' [] p vb L _ _ _ w hp hbo (by simp only [List.flatten_cons, List.flatten_nil, List.length_append, List.length_nil, List.length_cons]; omega) sl_nilS (by simp) (picks_st2 (row b 72 [.pointer p, vb, nilS', .bool false]) (tvec 5 1 byC vb L) hw))) ?_
  rintro _ J _ ⟨rfl, hJ, p, vb, L, hp, hbo, hL10, rfl⟩
  have hLe := hLe.trans hJ
  have hl10 := congrArg List.length hL10
  simp only [List.length_append, List.length_cons, List.length_nil, List.flatten_cons, List.flatten_nil] at hl10
  refine l_nil ?_
  refine n_end0 rfl (fun w' hw => ?_)
  -- leaf 0
  exact ⟨_, rfl, J, _, ⟨rfl, hLe, p, vb, L, hp, hbo, by rw [hL10, hL4] <;> simp [List.append_assoc], rfl⟩, subC_st hw⟩
set_option maxRecDepth 10000 in
theorem wword_calls (b : Nat) (av : Value) (xs : List (List UInt8)) (p : Option Addr) (vb : Value) (L : List UInt8) (I : Look) (F : List HA) (w0 w : World) (hp : p = none ∨ p = some ⟨b, 0, none⟩) (hbo : BufOk vb L) (hl : L.length + xs.flatten.length + 1 ≤ 131072) (hx : Sl I 1 av (xs.map stC)) (hxl : xs.length ≤ 1000) (hw0 : St w0 I (row b 72 [.pointer p, vb, nilS', .bool false] :: tvec 5 1 byC vb L :: F) w) : Calls Tryz.prog 92 [pAt b, av].toArray w (fun e w' => ∃ v, e = .returned v ∧ ∃ I' H', WrPost b L (xs.flatten ++ [10]) I F v I' H' ∧ St w I' H' w') := by
  have hLe := Le.refl I
  refine enter Tryz.func92 rfl Tryz.ntmps92 rfl (hw0.self) ?_
  refine t_seq ?_
  refine t_region ?_
  refine l_q rfl rfl rfl (q_move rfl rfl) ?_
  refine l_q rfl rfl rfl (q_move rfl rfl) ?_
  refine l_e rfl rfl rfl (eff_call rfl rfl rfl Tryz.func42 (by kernel_rfl) rfl (fun w hw => wput_calls b av xs p vb L _ _ _ w hp hbo (by omega) hx hxl (picks_st2 (row b 72 [.pointer p, vb, nilS', .bool false]) (tvec 5 1 byC vb L) hw))) ?_
  rintro _ J _ ⟨rfl, hJ, p, vb, L, hp, hbo, hL6, rfl⟩
  have hLe := hLe.trans hJ
  have hl6 := congrArg List.length hL6
  simp only [List.length_append, List.length_cons, List.length_nil, List.flatten_cons, List.flatten_nil] at hl6
  refine l_nil ?_
  refine n_then ?_
  refine t_region ?_
  refine l_q rfl rfl rfl (q_move rfl rfl) ?_
  refine l_e rfl rfl rfl (eff_call rfl rfl rfl Tryz.func28 (by kernel_rfl) rfl (fun w hw => wline_calls b p vb L _ _ _ w hp hbo (by omega) (picks_st2 (row b 72 [.pointer p, vb, nilS', .bool false]) (tvec 5 1 byC vb L) hw))) ?_
  rintro _ J _ ⟨rfl, hJ, p, vb, L, hp, hbo, hL8, rfl⟩
  have hLe := hLe.trans hJ
  have hl8 := congrArg List.length hL8
  simp only [List.length_append, List.length_cons, List.length_nil, List.flatten_cons, List.flatten_nil] at hl8
  refine l_nil ?_
  refine n_end0 rfl (fun w' hw => ?_)
  -- leaf 0
  exact ⟨_, rfl, J, _, ⟨rfl, hLe, p, vb, L, hp, hbo, by rw [hL8, hL6] <;> simp [List.append_assoc], rfl⟩, subC_st hw⟩
set_option maxRecDepth 10000 in
theorem wkids_calls (b : Nat) (c : NC) (n : Nat) (lo hi : Int) (hlo : lo ≤ (n : Int)) (hhi : (n : Int) ≤ hi) (hkv : ∃ A cc, c.kv = .slice A n cc) (p : Option Addr) (vb : Value) (I : Look) (F : List HA) (w0 w : World) (hw0 : St w0 I (row b 72 [.pointer p, vb, nilS', .bool false] :: F) w) : Calls Tryz.prog 69 [pAt b, .agg (ncC c).toArray, .int .i64 lo, .int .i64 hi].toArray w (fun e w' => ∃ v, e = .returned v ∧ ∃ I' H', (v = .bool true ∧ I = I' ∧ H' = row b 72 [.pointer p, vb, nilS', .bool false] :: F) ∧ St w I' H' w') := by
  refine enter Tryz.func69 rfl Tryz.ntmps69 rfl (hw0.self) ?_
  refine t_seq ?_
  refine t_region ?_
  refine l_e rfl rfl rfl (e_box rfl rfl rfl) ?_
  rintro _ _ _ ⟨b5, rfl, rfl, rfl⟩
  refine l_heap (H' := row b5 29 (ncC c) :: _) ?_ (fun _ h => h)
  refine l_q rfl rfl rfl (q_assign rfl rfl) ?_
  refine l_nil ?_
  refine n_then ?_
  refine t_seq ?_
  refine t_seq ?_
  refine t_qreg ?_
  refine s_q rfl rfl rfl (q_fieldAddr rfl Tryz.underlying29 rfl rfl ti27 rfl rfl) ?_
  refine s_q rfl rfl rfl (q_load_row rfl Tryz.underlying27 rfl rfl (by rfl)) ?_
  refine s_q rfl rfl rfl ((by first | exact q_lenV rfl Tryz.underlying27 rfl | exact q_len rfl Tryz.underlying27 rfl (hkv))) ?_
  refine s_q rfl rfl rfl (q_move rfl rfl) ?_
  refine s_q rfl rfl rfl (q_lss rfl rfl rfl) ?_
  refine s_q rfl rfl rfl (q_move rfl rfl) ?_
  refine s_or2 5 5 14 20 19 _ _ rfl rfl rfl rfl rfl rfl (fun h20 => by
      try simp at h20
      refine s_g rfl rfl rfl rfl rfl rfl (q_fieldAddr rfl Tryz.underlying29 rfl rfl ti27 rfl rfl) ?_
      refine s_g rfl rfl rfl rfl rfl rfl (q_load_row rfl Tryz.underlying27 rfl rfl (by rfl)) ?_
      refine s_g rfl rfl rfl rfl rfl rfl ((by first | exact q_lenV rfl Tryz.underlying27 rfl | exact q_len rfl Tryz.underlying27 rfl (hkv))) ?_
      refine s_g rfl rfl rfl rfl rfl rfl (q_move rfl rfl) ?_
      refine s_g rfl rfl rfl rfl rfl rfl (q_gtr rfl rfl rfl) ?_
      exact s_val rfl
    ) (wanted_n rfl) rfl rfl rfl ?_
  refine s_done ?_
  refine n_then ?_
  refine t_cond rfl (fun hc0 => ?_) (fun hc0 => ?_)
  · skip
    exfalso
    have h9 := hc0
    rw [Bool.or_eq_true, decide_eq_true_eq, decide_eq_true_eq] at h9
    omega
  · skip
    refine t_skip ?_
    refine n_then ?_
    refine t_seq ?_
    refine t_region ?_
    refine l_q rfl rfl rfl (q_move rfl rfl) ?_
    refine l_q rfl rfl rfl (q_nilCheck rfl rfl) ?_
    refine l_q rfl rfl rfl (q_fieldAddr rfl Tryz.underlying72 rfl rfl ti4 rfl rfl) ?_
    refine l_q rfl rfl rfl (q_load_row rfl Tryz.underlying4 rfl rfl (by rfl)) ?_
    refine l_q rfl rfl rfl (q_not rfl rfl) ?_
    refine l_q rfl rfl rfl (q_assign rfl rfl) ?_
    refine l_nil ?_
    refine n_then ?_
    refine t_ret ?_
    refine n_ret1 rfl rfl (fun w' hw => ?_)
    -- leaf 0
    exact ⟨_, rfl, I, _, ⟨rfl, rfl, rfl⟩, subC_st hw⟩
set_option maxRecDepth 10000 in
theorem wredirs_calls (b : Nat) (rv : Value) (ah : Bool) (I : Look) (F : List HA) (w0 w : World) (hrv : Sl I 5 rv []) (hw0 : St w0 I F w) : Calls Tryz.prog 67 [pAt b, rv, .bool ah].toArray w (fun e w' => ∃ v, e = .returned v ∧ ∃ I' H', (v = .tuple #[] ∧ I = I' ∧ H' = F) ∧ St w I' H' w') := by
  refine enter Tryz.func67 rfl Tryz.ntmps67 rfl (hw0.self) ?_
  refine t_seq ?_
  refine t_region ?_
  refine l_q rfl rfl rfl (q_move rfl rfl) ?_
  refine l_q rfl rfl rfl ((by first | exact q_lenV rfl Tryz.underlying26 rfl | exact q_len rfl Tryz.underlying26 rfl (Sl.lenOf (n := 0) hrv rfl))) ?_
  refine l_q rfl rfl rfl (q_move rfl rfl) ?_
  refine l_nil ?_
  refine n_then ?_
  refine t_block ?_
  refine t_loopE (ι := Unit) (fun _ => True) (fun _ => 0) (fun _ => [(11, .int .i64 0)]) [(0, _), (1, _), (9, _), (10, _)] (fun _ => I) (fun _ => F) () ?_ (sub_cons rfl sub_nil) (sub_cons rfl (sub_cons rfl (sub_cons rfl (sub_cons rfl sub_nil)))) (fun _ h => subC_st h) ?_
  · try dsimp only
    all_goals trivial
  rintro _ _
  refine t_seq ?_
  refine t_region ?_
  refine l_q rfl rfl rfl (q_lss rfl rfl rfl) ?_
  refine l_nil ?_
  refine n_then ?_
  refine t_seq ?_
  refine t_cond rfl (fun hc0 => ?_) (fun hc0 => ?_)
  · skip
    try simp at hc0
  · skip
    try simp at hc0
    refine t_exit ?_
    refine n_exit_then ?_
    refine n_exit_then ?_
    refine n_exit_block ?_
    refine n_end0 rfl (fun w' hw => ?_)
    -- leaf 0
    exact ⟨_, rfl, I, _, ⟨rfl, rfl, rfl⟩, subC_st hw⟩
end Go.Tri

/-
  The writer: trees.
-/
namespace Go.Tri
open Go.Proofs Go.RowKit
/-- a tree is shown as a text, so many levels deep -/
def ShowC (n : Nd) (out : List UInt8) (m : Nat) : Prop := ∀ (b : Nat) (c : NC) (d : Nat) (p : Option Addr) (vb : Value) (L : List UInt8) (I : Look) (F : List HA) (w0 w : World) (hp : p = none ∨ p = some ⟨b, 0, none⟩) (hbo : BufOk vb L), NdAt I n c → d + m ≤ 900 → L.length + out.length ≤ 131072 → St w0 I (row b 72 [.pointer p, vb, nilS', .bool false] :: tvec 5 1 byC vb L :: F) w →
  Calls Tryz.prog 41 [pAt b, .agg (ncC c).toArray, .int .i64 (d : Int)].toArray w (fun e w' => ∃ v, e = .returned v ∧ ∃ I' H', WrPost b L out I F v I' H' ∧ St w I' H' w')
def smpW (ws : List (List UInt8)) : Nd := .mk 1 false false [] ws [] []
def BodyC (n : Nd) (out : List UInt8) (m : Nat) : Prop := ∀ (b : Nat) (c : NC) (d : Nat) (p : Option Addr) (vb : Value) (L : List UInt8) (I : Look) (F : List HA) (w0 w : World) (hp : p = none ∨ p = some ⟨b, 0, none⟩) (hbo : BufOk vb L), NdAt I n c → d + m ≤ 900 → L.length + (out ++ [10]).length ≤ 131072 → St w0 I (row b 72 [.pointer p, vb, nilS', .bool false] :: tvec 5 1 byC vb L :: F) w →
  Calls Tryz.prog 93 [pAt b, .agg (ncC c).toArray, .int .i64 (d : Int)].toArray w (fun e w' => ∃ v, e = .returned v ∧ ∃ I' H', WrPost b L (out ++ [10]) I F v I' H' ∧ St w I' H' w')
def CompC (n : Nd) (out : List UInt8) (m : Nat) : Prop := ∀ (b : Nat) (c : NC) (d : Nat) (p : Option Addr) (vb : Value) (L : List UInt8) (I : Look) (F : List HA) (w0 w : World) (hp : p = none ∨ p = some ⟨b, 0, none⟩) (hbo : BufOk vb L), NdAt I n c → d + m ≤ 900 → L.length + out.length ≤ 131072 → St w0 I (row b 72 [.pointer p, vb, nilS', .bool false] :: tvec 5 1 byC vb L :: F) w →
  Calls Tryz.prog 70 [pAt b, .agg (ncC c).toArray, .int .i64 (d : Int)].toArray w (fun e w' => ∃ v, e = .returned v ∧ ∃ I' H', WrPost b L out I F v I' H' ∧ St w I' H' w')
theorem nds1 {I : Look} {k : Nd} {cs : List NC} (h : NdsAt I [k] cs) : ∃ c, cs = [c] ∧ NdAt I k c := by
  match cs, h with
  | [c], h => unfold NdsAt at h; exact ⟨c, rfl, h.1⟩
  | [], h => unfold NdsAt at h; exact h.elim
  | a :: b :: r, h => unfold NdsAt at h; obtain ⟨_, h⟩ := h; unfold NdsAt at h; exact h.elim
theorem nds2 {I : Look} {k l : Nd} {cs : List NC} (h : NdsAt I [k, l] cs) : ∃ c e, cs = [c, e] ∧ NdAt I k c ∧ NdAt I l e := by
  match cs, h with
  | [c, e], h =>
    unfold NdsAt at h
    obtain ⟨h1, h⟩ := h
    unfold NdsAt at h
    exact ⟨c, e, rfl, h1, h.1⟩
  | [], h => unfold NdsAt at h; exact h.elim
  | [a], h => unfold NdsAt at h; obtain ⟨_, h⟩ := h; unfold NdsAt at h; exact h.elim
  | a :: b :: e :: r, h => unfold NdsAt at h; obtain ⟨_, h⟩ := h; unfold NdsAt at h; obtain ⟨_, h⟩ := h; unfold NdsAt at h; exact h.elim
def ifT (a b : List UInt8) : List UInt8 := [105, 102, 10] ++ (a ++ [10]) ++ [116, 104, 101, 110, 10] ++ (b ++ [10])
theorem ifT_len (a b : List UInt8) : (ifT a b).length = a.length + b.length + 10 := by
  unfold ifT
  simp only [List.length_append, List.length_cons, List.length_nil]; omega
set_option maxRecDepth 10000 in
theorem showWords (ws : List (List UInt8)) (hne : ws ≠ []) (hn0 : ws.length ≤ 100000) : ShowC (smpW ws) (Lib.join ws [32]) 0 := by
  intro b c d p vb L I F w0 w hp hbo hn hd hl hw0
  have hLe := Le.refl I
  obtain ⟨ck, cnt, ci, cnm, wv, rv, kv⟩ := c
  have hone := hn.ones
  unfold smpW NdAt at hn
  obtain ⟨h1, h2, h3, h4, h5, h6, cs, h7, h8⟩ := hn
  dsimp only at h1 h2 h3 h4 h5 h6 h7
  subst h1 h2 h3 h4
  refine enter Tryz.func41 rfl Tryz.ntmps41 rfl (hw0.self) ?_
  refine t_seq ?_
  refine t_region ?_
  refine l_e rfl rfl rfl (e_box rfl rfl rfl) ?_
  rintro _ _ _ ⟨b4, rfl, rfl, rfl⟩
  refine l_heap (H' := row b4 29 (ncC ⟨1, false, false, [], wv, rv, kv⟩) :: _) ?_ (fun _ h => h)
  refine l_nil ?_
  refine n_then ?_
  refine t_seq ?_
  refine t_seq ?_
  refine t_qreg ?_
  refine s_q rfl rfl rfl (q_move rfl rfl) ?_
  refine s_q rfl rfl rfl (q_gtr rfl rfl rfl) ?_
  refine s_q rfl rfl rfl (q_move rfl rfl) ?_
  refine s_or2 4 2 8 13 12 _ _ rfl rfl rfl rfl rfl rfl (fun h13 => by
      try simp at h13
      refine s_g rfl rfl rfl rfl rfl rfl (q_move rfl rfl) ?_
      refine s_g rfl rfl rfl rfl rfl rfl (q_nilCheck rfl rfl) ?_
      refine s_g rfl rfl rfl rfl rfl rfl (q_fieldAddr rfl Tryz.underlying72 rfl rfl ti4 rfl rfl) ?_
      refine s_g rfl rfl rfl rfl rfl rfl (q_load_row rfl Tryz.underlying4 rfl rfl (by rfl)) ?_
      exact s_val rfl
    ) (wanted_n rfl) rfl rfl rfl ?_
  refine s_done ?_
  refine n_then ?_
  refine t_cond rfl (fun hc0 => ?_) (fun hc0 => ?_)
  · skip
    exfalso
    have h9 := hc0
    simp at h9
    omega
  · skip
    refine t_skip ?_
    refine n_then ?_
    refine t_seq ?_
    refine t_region ?_
    refine l_q rfl rfl rfl (q_move rfl rfl) ?_
    refine l_q rfl rfl rfl (q_add64 rfl rfl rfl (by omega)) ?_
    refine l_q rfl rfl rfl (q_assign rfl rfl) ?_
    refine l_nil ?_
    refine n_then ?_
    refine t_seq ?_
    refine t_seq ?_
    refine t_region ?_
    refine l_q rfl rfl rfl (q_fieldAddr rfl Tryz.underlying29 rfl rfl ti3 rfl rfl) ?_
    refine l_q rfl rfl rfl (q_load_row rfl Tryz.underlying3 rfl rfl (by rfl)) ?_
    refine l_nil ?_
    refine n_then ?_
    refine t_block ?_
    refine t_seq ?_
    refine t_region ?_
    refine l_q rfl rfl rfl (q_eql rfl rfl rfl) ?_
    refine l_q rfl rfl rfl (q_assign rfl rfl) ?_
    refine l_nil ?_
    refine n_then ?_
    refine t_cond rfl (fun hc1 => ?_) (fun hc1 => ?_)
    · skip
      try simp at hc1
      refine t_seq ?_
      refine t_region ?_
      refine l_q rfl rfl rfl (q_move rfl rfl) ?_
      refine l_q rfl rfl rfl (q_fieldAddr rfl Tryz.underlying29 rfl rfl ti25 rfl rfl) ?_
      refine l_q rfl rfl rfl (q_load_row rfl Tryz.underlying25 rfl rfl (by rfl)) ?_
      refine l_q rfl rfl rfl (quiet_call rfl rfl rfl Tryz.func66 (by kernel_rfl) rfl ((fun w hw => join_pure wv ws w hne hn0 (by omega) (h5.mono hw.le)))) ?_
      refine l_e rfl rfl rfl (e_buildSlice1 rfl Tryz.underlying25 ti9 rfl rfl rfl (by first | exact One.cells (by assumption) | rfl) rfl) ?_
      rintro _ _ _ ⟨b27, rfl, rfl, rfl⟩
      refine l_heap (H' := tvec 9 1 stC (.slice (some ⟨b27, 0, none⟩) 1 1) [Lib.join ws [32]] :: _) ?_ (fun _ h => st_rowVec h rfl (by decide))
      refine l_freezeT (f := stC) (l := [Lib.join ws [32]]) (.slice (some ⟨b27, 0, none⟩) 1 1) (fun _ => rfl) (fun Jf hJf hvf => ?_)
      have hLe := hLe.trans hJf
      refine l_e rfl rfl rfl (eff_call rfl rfl rfl Tryz.func42 (by kernel_rfl) rfl (fun w hw => wput_calls b (.slice (some ⟨b27, 0, none⟩) 1 1) [Lib.join ws [32]] p vb L _ _ _ w hp hbo (by simp only [List.flatten_cons, List.flatten_nil, List.length_append, List.length_nil, List.length_cons]; omega) hvf (by simp) (picks_st2 (row b 72 [.pointer p, vb, nilS', .bool false]) (tvec 5 1 byC vb L) hw))) ?_
      rintro _ J _ ⟨rfl, hJ, p, vb, L, hp, hbo, hL28, rfl⟩
      have hLe := hLe.trans hJ
      have hl28 := congrArg List.length hL28
      simp only [List.length_append, List.length_cons, List.length_nil, List.flatten_cons, List.flatten_nil] at hl28
      refine l_nil ?_
      refine n_then ?_
      refine t_seq ?_
      refine t_region ?_
      refine l_q rfl rfl rfl (q_move rfl rfl) ?_
      refine l_q rfl rfl rfl (q_fieldAddr rfl Tryz.underlying29 rfl rfl ti26 rfl rfl) ?_
      refine l_q rfl rfl rfl (q_load_row rfl Tryz.underlying26 rfl rfl (by rfl)) ?_
      refine l_q rfl rfl rfl (q_fieldAddr rfl Tryz.underlying29 rfl rfl ti25 rfl rfl) ?_
      refine l_q rfl rfl rfl (q_load_row rfl Tryz.underlying25 rfl rfl (by rfl)) ?_
      refine l_q rfl rfl rfl ((by first | exact q_lenV rfl Tryz.underlying25 rfl | exact q_len rfl Tryz.underlying25 rfl (Sl.lenOf (h5.mono hLe) (List.length_map _)))) ?_
      refine l_q rfl rfl rfl (q_gtr rfl rfl rfl) ?_
      refine l_e rfl rfl rfl (eff_call rfl rfl rfl Tryz.func67 (by kernel_rfl) rfl (fun w hw => wredirs_calls b rv _ _ _ _ w (h6.mono hLe) hw)) ?_
      rintro _ _ _ ⟨rfl, rfl, rfl⟩
      refine l_nil ?_
      refine n_then ?_
      refine t_ret ?_
      refine n_ret_block ?_
      refine n_ret_then ?_
      refine n_ret0 rfl (fun w' hw => ?_)
      -- leaf 0
      exact ⟨_, rfl, J, _, ⟨rfl, hLe, p, vb, L, hp, hbo, by rw [hL28] <;> simp [List.append_assoc], rfl⟩, subC_st hw⟩
    · skip
      try simp at hc1
set_option maxRecDepth 10000 in
theorem body_of (n : Nd) (out : List UInt8) (m : Nat) (h5 : n.kind ≠ 5) (hS : ShowC n out m) : BodyC n out m := by
  intro b c d p0 vb0 L0 I F w0 w hp0 hbo0 hn hd hl hw0
  have hLe := Le.refl I
  have hk5 : c.kind ≠ 5 := by rw [hn.kind]; exact h5
  have hone := hn.ones
  rw [List.length_append, List.length_singleton] at hl
  refine enter Tryz.func93 rfl Tryz.ntmps93 rfl (hw0.self) ?_
  refine t_seq ?_
  refine t_region ?_
  refine l_e rfl rfl rfl (e_box rfl rfl rfl) ?_
  rintro _ _ _ ⟨b4, rfl, rfl, rfl⟩
  refine l_heap (H' := row b4 29 (ncC c) :: _) ?_ (fun _ h => h)
  refine l_nil ?_
  refine n_then ?_
  refine t_seq ?_
  refine t_region ?_
  refine l_q rfl rfl rfl (q_fieldAddr rfl Tryz.underlying29 rfl rfl ti27 rfl rfl) ?_
  refine l_q rfl rfl rfl (q_load_row rfl Tryz.underlying27 rfl rfl (by rfl)) ?_
  refine l_q rfl rfl rfl (q_assign rfl rfl) ?_
  refine l_nil ?_
  refine n_then ?_
  refine t_seq ?_
  refine t_seq ?_
  refine t_region ?_
  refine l_q rfl rfl rfl (q_fieldAddr rfl Tryz.underlying29 rfl rfl ti3 rfl rfl) ?_
  refine l_q rfl rfl rfl (q_load_row rfl Tryz.underlying3 rfl rfl (by rfl)) ?_
  refine l_q rfl rfl rfl (q_neq rfl rfl rfl) ?_
  refine l_nil ?_
  refine n_then ?_
  refine t_cond rfl (fun hc0 => ?_) (fun hc0 => ?_)
  · skip
    refine t_region ?_
    refine l_q rfl rfl rfl ((by first | exact q_load_rowA rfl Tryz.underlying29 ti29 rfl rfl rfl | exact q_load_agg rfl Tryz.underlying29 ti29 rfl rfl ((hvf.mono hJx).rds (i := 0) (cs := ncC c) rfl))) ?_
    refine l_e rfl rfl rfl (e_buildSlice1 rfl Tryz.underlying27 ti29 rfl rfl rfl (by first | exact One.cells (by assumption) | rfl) rfl) ?_
    rintro _ _ _ ⟨b15, rfl, rfl, rfl⟩
    refine l_heap (H' := tvec 29 7 ncC (.slice (some ⟨b15, 0, none⟩) 1 1) [c] :: _) ?_ (fun _ h => st_rowVec h rfl (by decide))
    refine l_freezeT (f := ncC) (l := [c]) (.slice (some ⟨b15, 0, none⟩) 1 1) (fun _ => rfl) (fun Jf hJf hvf => ?_)
    have hLe := hLe.trans hJf
    have hJx := Le.refl Jf
    refine l_q rfl rfl rfl (q_assign rfl rfl) ?_
    refine l_nil ?_
    refine n_then ?_
    refine t_seq ?_
    refine t_region ?_
    refine l_q rfl rfl rfl (q_move rfl rfl) ?_
    refine l_q rfl rfl rfl ((by first | exact q_lenV rfl Tryz.underlying27 rfl | exact q_len rfl Tryz.underlying27 rfl (Sl.lenOf (n := 1) (hvf.mono hJx) rfl))) ?_
    refine l_q rfl rfl rfl (q_move rfl rfl) ?_
    refine l_nil ?_
    refine n_then ?_
    refine t_block ?_
    refine t_loopE (ι := Nat × Option Addr × Value × List UInt8 × Look) (fun zz => Le I zz.2.2.2.2 ∧ Le Jf zz.2.2.2.2 ∧ zz.1 ≤ 1 ∧ (zz.2.1 = none ∨ zz.2.1 = some ⟨b, 0, none⟩) ∧ BufOk zz.2.2.1 zz.2.2.2.1 ∧ zz.2.2.2.1 = L0 ++ (if zz.1 = 0 then [] else out ++ [10])) (fun zz => 1 - zz.1) (fun zz => [(18, .int .i64 (zz.1 : Int))]) [(0, _), (1, _), (2, _), (4, _), (6, _), (13, _), (16, _), (17, _)] (fun zz => zz.2.2.2.2) (fun zz => (row b 72 [.pointer zz.2.1, zz.2.2.1, nilS', .bool false] :: tvec 5 1 byC zz.2.2.1 zz.2.2.2.1 :: F)) (0, p0, vb0, L0, Jf) ?_ (sub_cons rfl sub_nil) (sub_cons rfl (sub_cons rfl (sub_cons rfl (sub_cons rfl (sub_cons rfl (sub_cons rfl (sub_cons rfl (sub_cons rfl sub_nil)))))))) (fun _ h => subC_st h) ?_
    · try dsimp only
      exact ⟨hLe, Le.refl _, Nat.zero_le _, hp0, hbo0, by simp⟩
    rintro ⟨i, p, vb, L, J⟩ ⟨hLe, hJx, hi, hp, hbo, hLx⟩
    try dsimp only at *
    refine t_seq ?_
    refine t_region ?_
    refine l_q rfl rfl rfl (q_lss rfl rfl rfl) ?_
    refine l_nil ?_
    refine n_then ?_
    refine t_seq ?_
    refine t_cond rfl (fun hc1 => ?_) (fun hc1 => ?_)
    · skip
      try simp at hc1
      have hi0 : i = 0 := by omega
      rw [hi0] at hLx ⊢
      have hlx := congrArg List.length hLx
      simp only [List.length_append, if_pos, List.length_nil] at hlx
      refine t_skip ?_
      refine n_then ?_
      refine t_seq ?_
      refine t_block ?_
      refine t_seq ?_
      refine t_region ?_
      refine l_q rfl rfl rfl ((by first | exact q_indexAddrVN rfl Tryz.underlying27 ti29 rfl rfl (by omega) | exact q_indexAddrN rfl Tryz.underlying27 ti29 rfl rfl (Sl.shape (n := 1) (hvf.mono hJx) rfl) (by omega) | exact q_indexAddrV rfl Tryz.underlying27 ti29 rfl rfl (by omega) | exact q_indexAddr rfl Tryz.underlying27 ti29 rfl rfl (Sl.shape (n := 1) (hvf.mono hJx) rfl) (by omega))) ?_
      refine l_q rfl rfl rfl ((by first | exact q_load_rowA rfl Tryz.underlying29 ti29 rfl rfl rfl | exact q_load_agg rfl Tryz.underlying29 ti29 rfl rfl ((hvf.mono hJx).rds (i := 0) (cs := ncC c) rfl))) ?_
      refine l_e rfl rfl rfl (e_alloc rfl ti29 rfl) ?_
      rintro _ _ _ ⟨b8, rfl, rfl, rfl⟩
      refine l_e0 rfl rfl ((by first | exact e_store_all rfl ti29 rfl rfl rfl (by first | exact chC_ones _ | exact pcC_ones _ | exact hone | simp [Value.oneCell', str, u8]) rfl | exact e_store_agg rfl ti29 rfl rfl rfl (by first | exact chC_ones _ | exact pcC_ones _ | exact hone | simp [Value.oneCell', str, u8]) rfl)) ?_
      rintro _ _ _ ⟨rfl, rfl⟩
      refine l_heap (H' := row b8 29 (ncC c) :: _) ?_ (fun _ h => h)
      refine l_nil ?_
      refine n_then ?_
      refine t_seq ?_
      refine t_region ?_
      refine l_q rfl rfl rfl (q_move rfl rfl) ?_
      refine l_q rfl rfl rfl ((by first | exact q_load_rowA rfl Tryz.underlying29 ti29 rfl rfl rfl | exact q_load_agg rfl Tryz.underlying29 ti29 rfl rfl ((hvf.mono hJx).rds (i := 0) (cs := ncC c) rfl))) ?_
      refine l_q rfl rfl rfl (q_move rfl rfl) ?_
      refine l_e rfl rfl rfl (eff_call rfl rfl rfl Tryz.func41 (by kernel_rfl) rfl (fun w hw => hS b c d p vb L _ _ _ w hp hbo (hn.mono hLe) hd (by omega) (picks_st2 (row b 72 [.pointer p, vb, nilS', .bool false]) (tvec 5 1 byC vb L) hw))) ?_
      rintro _ J _ ⟨rfl, hJ, p, vb, L, hp, hbo, hL25, rfl⟩
      have hLe := hLe.trans hJ
      have hl25 := congrArg List.length hL25
      simp only [List.length_append, List.length_cons, List.length_nil, List.flatten_cons, List.flatten_nil] at hl25
      have hJx := hJx.trans hJ
      refine l_nil ?_
      refine n_then ?_
      refine t_region ?_
      refine l_q rfl rfl rfl (q_move rfl rfl) ?_
      refine l_e rfl rfl rfl (eff_call rfl rfl rfl Tryz.func28 (by kernel_rfl) rfl (fun w hw => wline_calls b p vb L _ _ _ w hp hbo (by omega) (picks_st2 (row b 72 [.pointer p, vb, nilS', .bool false]) (tvec 5 1 byC vb L) hw))) ?_
      rintro _ J _ ⟨rfl, hJ, p, vb, L, hp, hbo, hL27, rfl⟩
      have hLe := hLe.trans hJ
      have hl27 := congrArg List.length hL27
      simp only [List.length_append, List.length_cons, List.length_nil, List.flatten_cons, List.flatten_nil] at hl27
      have hJx := hJx.trans hJ
      refine l_nil ?_
      refine n_block ?_
      refine n_then ?_
      refine t_region ?_
      refine l_q rfl rfl rfl (q_add64 rfl rfl rfl (by omega)) ?_
      refine l_q rfl rfl rfl (q_move rfl rfl) ?_
      refine l_nil ?_
      refine n_roundE ((1, p, vb, L, J)) ?_ ?_ (sub_cons rfl sub_nil) (sub_cons rfl (sub_cons rfl (sub_cons rfl (sub_cons rfl (sub_cons rfl (sub_cons rfl (sub_cons rfl (sub_cons rfl sub_nil)))))))) (fun _ h => by try dsimp only; exact subC_st h)
      · try dsimp only
        exact ⟨hLe, hJx, Nat.le_refl _, hp, hbo, by rw [hL27, hL25, hLx]; simp⟩
      · try dsimp only
        omega
    · skip
      try simp at hc1
      have hi1 : i = 1 := by omega
      rw [hi1] at hLx
      refine t_exit ?_
      refine n_exit_then ?_
      refine n_exit_then ?_
      refine n_exit_block ?_
      refine n_end0 rfl (fun w' hw => ?_)
      -- leaf 0
      exact ⟨_, rfl, J, _, ⟨rfl, hLe, p, vb, L, hp, hbo, by rw [hLx]; simp, rfl⟩, subC_st hw⟩
  · skip
    exfalso
    have h9 := of_decide_eq_false hc0
    omega
set_option maxRecDepth 10000 in
theorem comp7 (k : Nd) (out : List UInt8) (m : Nat) (hB : BodyC k out m) : CompC (ndK 7 [k]) ([40, 10] ++ (out ++ [10]) ++ [41]) m := by
  intro b c d p vb L I F w0 w hp hbo hn hd hl hw0
  have hLe := Le.refl I
  obtain ⟨ck, cnt, ci, cnm, wv, rv, kv⟩ := c
  have hone := hn.ones
  unfold ndK NdAt at hn
  obtain ⟨h1, h2, h3, h4, h5, h6, cs, h7, h8⟩ := hn
  dsimp only at h1 h2 h3 h4 h5 h6 h7
  subst h1 h2 h3 h4
  obtain ⟨ca, rfl, hca⟩ := nds1 h8
  simp only [List.length_append, List.length_cons, List.length_nil] at hl
  refine enter Tryz.func70 rfl Tryz.ntmps70 rfl (hw0.self) ?_
  refine t_seq ?_
  refine t_region ?_
  refine l_e rfl rfl rfl (e_box rfl rfl rfl) ?_
  rintro _ _ _ ⟨b4, rfl, rfl, rfl⟩
  refine l_heap (H' := row b4 29 (ncC ⟨7, false, false, [], wv, rv, kv⟩) :: _) ?_ (fun _ h => h)
  refine l_nil ?_
  refine n_then ?_
  refine t_seq ?_
  refine t_region ?_
  refine l_q rfl rfl rfl (q_fieldAddr rfl Tryz.underlying29 rfl rfl ti3 rfl rfl) ?_
  refine l_q rfl rfl rfl (q_load_row rfl Tryz.underlying3 rfl rfl (by rfl)) ?_
  refine l_nil ?_
  refine n_then ?_
  refine t_block ?_
  refine t_seq ?_
  refine t_seq ?_
  refine t_region ?_
  refine l_q rfl rfl rfl (q_eql rfl rfl rfl) ?_
  refine l_q rfl rfl rfl (q_assign rfl rfl) ?_
  refine l_nil ?_
  refine n_then ?_
  refine t_cond rfl (fun hc0 => ?_) (fun hc0 => ?_)
  · skip
    try simp at hc0
    refine t_skip ?_
    refine n_then ?_
    refine t_cond rfl (fun hc1 => ?_) (fun hc1 => ?_)
    · skip
      try simp at hc1
      refine t_seq ?_
      refine t_region ?_
      refine l_q rfl rfl rfl (q_assign rfl rfl) ?_
      refine l_nil ?_
      refine n_then ?_
      refine t_seq ?_
      refine t_seq ?_
      refine t_region ?_
      refine l_q rfl rfl rfl (q_fieldAddr rfl Tryz.underlying29 rfl rfl ti3 rfl rfl) ?_
      refine l_q rfl rfl rfl (q_load_row rfl Tryz.underlying3 rfl rfl (by rfl)) ?_
      refine l_q rfl rfl rfl (q_eql rfl rfl rfl) ?_
      refine l_nil ?_
      refine n_then ?_
      refine t_cond rfl (fun hc2 => ?_) (fun hc2 => ?_)
      · skip
        try simp at hc2
      · skip
        try simp at hc2
        refine t_skip ?_
        refine n_then ?_
        refine t_seq ?_
        refine t_region ?_
        refine l_q rfl rfl rfl (q_move rfl rfl) ?_
        refine l_q rfl rfl rfl ((by first | exact q_load_rowA rfl Tryz.underlying29 ti29 rfl rfl rfl | exact q_load_agg rfl Tryz.underlying29 ti29 rfl rfl ((h7.mono hLe).rds (i := 0) (cs := ncC ca) rfl))) ?_
        refine l_e rfl rfl rfl (eff_call rfl rfl rfl Tryz.func69 (by kernel_rfl) rfl (fun w hw => wkids_calls b ⟨7, false, false, [], wv, rv, kv⟩ 1 1 1 (by decide) (by decide) (Sl.lenOf (n := 1) h7 rfl) p vb _ _ _ w (picks_st1 (row b 72 [.pointer p, vb, nilS', .bool false]) hw))) ?_
        rintro _ _ _ ⟨rfl, rfl, rfl⟩
        refine l_nil ?_
        refine n_then ?_
        refine t_cond rfl (fun hc3 => ?_) (fun hc3 => ?_)
        · skip
          try simp at hc3
          refine t_seq ?_
          refine t_region ?_
          refine l_q rfl rfl rfl (q_move rfl rfl) ?_
          refine l_q rfl rfl rfl (q_move rfl rfl) ?_
          refine l_q rfl rfl rfl (q_slice_str_to rfl Tryz.underlying9 rfl rfl (by decide)) ?_
          refine l_e rfl rfl rfl (e_buildSlice1 rfl Tryz.underlying25 ti9 rfl rfl rfl (by first | exact One.cells (by assumption) | rfl) rfl) ?_
          rintro _ _ _ ⟨b27, rfl, rfl, rfl⟩
          refine l_heap (H' := tvec 9 1 stC (.slice (some ⟨b27, 0, none⟩) 1 1) [[40]] :: _) ?_ (fun _ h => st_rowVec h rfl (by decide))
          refine l_freezeT (f := stC) (l := [[40]]) (.slice (some ⟨b27, 0, none⟩) 1 1) (fun _ => rfl) (fun Jf hJf hvf => ?_)
          have hLe := hLe.trans hJf
          refine l_e rfl rfl rfl (eff_call rfl rfl rfl Tryz.func92 (by kernel_rfl) rfl (fun w hw => wword_calls b (.slice (some ⟨b27, 0, none⟩) 1 1) [[40]] p vb L _ _ _ w hp hbo (by simp only [List.flatten_cons, List.flatten_nil, List.length_append, List.length_nil, List.length_cons]; omega) hvf (by simp) (picks_st2 (row b 72 [.pointer p, vb, nilS', .bool false]) (tvec 5 1 byC vb L) hw))) ?_
          rintro _ J _ ⟨rfl, hJ, p, vb, L, hp, hbo, hL28, rfl⟩
          have hLe := hLe.trans hJ
          have hl28 := congrArg List.length hL28
          simp only [List.length_append, List.length_cons, List.length_nil, List.flatten_cons, List.flatten_nil] at hl28
          refine l_nil ?_
          refine n_then ?_
          refine t_seq ?_
          refine t_region ?_
          refine l_q rfl rfl rfl (q_move rfl rfl) ?_
          refine l_q rfl rfl rfl (q_fieldAddr rfl Tryz.underlying29 rfl rfl ti27 rfl rfl) ?_
          refine l_q rfl rfl rfl (q_load_row rfl Tryz.underlying27 rfl rfl (by rfl)) ?_
          refine l_q rfl rfl rfl ((by first | exact q_indexAddrVN rfl Tryz.underlying27 ti29 rfl rfl (by omega) | exact q_indexAddrN rfl Tryz.underlying27 ti29 rfl rfl (Sl.shape (n := 1) (h7.mono hLe) rfl) (by omega) | exact q_indexAddrV rfl Tryz.underlying27 ti29 rfl rfl (by omega) | exact q_indexAddr rfl Tryz.underlying27 ti29 rfl rfl (Sl.shape (n := 1) (h7.mono hLe) rfl) (by omega))) ?_
          refine l_q rfl rfl rfl ((by first | exact q_load_rowA rfl Tryz.underlying29 ti29 rfl rfl rfl | exact q_load_agg rfl Tryz.underlying29 ti29 rfl rfl ((h7.mono hLe).rds (i := 0) (cs := ncC ca) rfl))) ?_
          refine l_q rfl rfl rfl (q_move rfl rfl) ?_
          refine l_e rfl rfl rfl (eff_call rfl rfl rfl Tryz.func93 (by kernel_rfl) rfl (fun w hw => hB b ca d p vb L _ _ _ w hp hbo (hca.mono hLe) hd (by simp only [List.length_append, List.length_cons, List.length_nil]; omega) (picks_st2 (row b 72 [.pointer p, vb, nilS', .bool false]) (tvec 5 1 byC vb L) hw))) ?_
          rintro _ J _ ⟨rfl, hJ, p, vb, L, hp, hbo, hL35, rfl⟩
          have hLe := hLe.trans hJ
          have hl35 := congrArg List.length hL35
          simp only [List.length_append, List.length_cons, List.length_nil, List.flatten_cons, List.flatten_nil] at hl35
          refine l_nil ?_
          refine n_then ?_
          refine t_region ?_
          refine l_q rfl rfl rfl (q_move rfl rfl) ?_
          refine l_q rfl rfl rfl (q_move rfl rfl) ?_
          refine l_q rfl rfl rfl (q_slice_str_from rfl Tryz.underlying9 rfl rfl (by decide)) ?_
          refine l_e rfl rfl rfl (e_buildSlice1 rfl Tryz.underlying25 ti9 rfl rfl rfl (by first | exact One.cells (by assumption) | rfl) rfl) ?_
          rintro _ _ _ ⟨b39, rfl, rfl, rfl⟩
          refine l_heap (H' := tvec 9 1 stC (.slice (some ⟨b39, 0, none⟩) 1 1) [[41]] :: _) ?_ (fun _ h => st_rowVec h rfl (by decide))
          refine l_freezeT (f := stC) (l := [[41]]) (.slice (some ⟨b39, 0, none⟩) 1 1) (fun _ => rfl) (fun Jg hJg hvg => ?_)
          have hLe := hLe.trans hJg
          refine l_e rfl rfl rfl (eff_call rfl rfl rfl Tryz.func42 (by kernel_rfl) rfl (fun w hw => wput_calls b (.slice (some ⟨b39, 0, none⟩) 1 1) [[41]] p vb L _ _ _ w hp hbo (by simp only [List.flatten_cons, List.flatten_nil, List.length_append, List.length_nil, List.length_cons]; omega) hvg (by simp) (picks_st2 (row b 72 [.pointer p, vb, nilS', .bool false]) (tvec 5 1 byC vb L) hw))) ?_
          rintro _ J _ ⟨rfl, hJ, p, vb, L, hp, hbo, hL40, rfl⟩
          have hLe := hLe.trans hJ
          have hl40 := congrArg List.length hL40
          simp only [List.length_append, List.length_cons, List.length_nil, List.flatten_cons, List.flatten_nil] at hl40
          refine l_nil ?_
          refine n_block ?_
          refine n_end0 rfl (fun w' hw => ?_)
          -- leaf 0
          exact ⟨_, rfl, J, _, ⟨rfl, hLe, p, vb, L, hp, hbo, by rw [hL40, hL35, hL28] <;> simp [List.append_assoc], rfl⟩, subC_st hw⟩
        · skip
          try simp at hc3
    · skip
      try simp at hc1
  · skip
    try simp at hc0
set_option maxRecDepth 10000 in
theorem comp8 (k : Nd) (out : List UInt8) (m : Nat) (hB : BodyC k out m) : CompC (ndK 8 [k]) ([123, 10] ++ (out ++ [10]) ++ [125]) m := by
  intro b c d p vb L I F w0 w hp hbo hn hd hl hw0
  have hLe := Le.refl I
  obtain ⟨ck, cnt, ci, cnm, wv, rv, kv⟩ := c
  have hone := hn.ones
  unfold ndK NdAt at hn
  obtain ⟨h1, h2, h3, h4, h5, h6, cs, h7, h8⟩ := hn
  dsimp only at h1 h2 h3 h4 h5 h6 h7
  subst h1 h2 h3 h4
  obtain ⟨ca, rfl, hca⟩ := nds1 h8
  simp only [List.length_append, List.length_cons, List.length_nil] at hl
  refine enter Tryz.func70 rfl Tryz.ntmps70 rfl (hw0.self) ?_
  refine t_seq ?_
  refine t_region ?_
  refine l_e rfl rfl rfl (e_box rfl rfl rfl) ?_
  rintro _ _ _ ⟨b4, rfl, rfl, rfl⟩
  refine l_heap (H' := row b4 29 (ncC ⟨8, false, false, [], wv, rv, kv⟩) :: _) ?_ (fun _ h => h)
  refine l_nil ?_
  refine n_then ?_
  refine t_seq ?_
  refine t_region ?_
  refine l_q rfl rfl rfl (q_fieldAddr rfl Tryz.underlying29 rfl rfl ti3 rfl rfl) ?_
  refine l_q rfl rfl rfl (q_load_row rfl Tryz.underlying3 rfl rfl (by rfl)) ?_
  refine l_nil ?_
  refine n_then ?_
  refine t_block ?_
  refine t_seq ?_
  refine t_seq ?_
  refine t_region ?_
  refine l_q rfl rfl rfl (q_eql rfl rfl rfl) ?_
  refine l_q rfl rfl rfl (q_assign rfl rfl) ?_
  refine l_nil ?_
  refine n_then ?_
  refine t_cond rfl (fun hc0 => ?_) (fun hc0 => ?_)
  · skip
    try simp at hc0
  · skip
    try simp at hc0
    refine t_region ?_
    refine l_q rfl rfl rfl (q_eql rfl rfl rfl) ?_
    refine l_q rfl rfl rfl (q_assign rfl rfl) ?_
    refine l_nil ?_
    refine n_then ?_
    refine t_cond rfl (fun hc1 => ?_) (fun hc1 => ?_)
    · skip
      try simp at hc1
      refine t_seq ?_
      refine t_region ?_
      refine l_q rfl rfl rfl (q_assign rfl rfl) ?_
      refine l_nil ?_
      refine n_then ?_
      refine t_seq ?_
      refine t_seq ?_
      refine t_region ?_
      refine l_q rfl rfl rfl (q_fieldAddr rfl Tryz.underlying29 rfl rfl ti3 rfl rfl) ?_
      refine l_q rfl rfl rfl (q_load_row rfl Tryz.underlying3 rfl rfl (by rfl)) ?_
      refine l_q rfl rfl rfl (q_eql rfl rfl rfl) ?_
      refine l_nil ?_
      refine n_then ?_
      refine t_cond rfl (fun hc2 => ?_) (fun hc2 => ?_)
      · skip
        try simp at hc2
        refine t_region ?_
        refine l_q rfl rfl rfl (q_assign rfl rfl) ?_
        refine l_nil ?_
        refine n_then ?_
        refine t_seq ?_
        refine t_region ?_
        refine l_q rfl rfl rfl (q_move rfl rfl) ?_
        refine l_q rfl rfl rfl ((by first | exact q_load_rowA rfl Tryz.underlying29 ti29 rfl rfl rfl | exact q_load_agg rfl Tryz.underlying29 ti29 rfl rfl ((h7.mono hLe).rds (i := 0) (cs := ncC ca) rfl))) ?_
        refine l_e rfl rfl rfl (eff_call rfl rfl rfl Tryz.func69 (by kernel_rfl) rfl (fun w hw => wkids_calls b ⟨8, false, false, [], wv, rv, kv⟩ 1 1 1 (by decide) (by decide) (Sl.lenOf (n := 1) h7 rfl) p vb _ _ _ w (picks_st1 (row b 72 [.pointer p, vb, nilS', .bool false]) hw))) ?_
        rintro _ _ _ ⟨rfl, rfl, rfl⟩
        refine l_nil ?_
        refine n_then ?_
        refine t_cond rfl (fun hc3 => ?_) (fun hc3 => ?_)
        · skip
          try simp at hc3
          refine t_seq ?_
          refine t_region ?_
          refine l_q rfl rfl rfl (q_move rfl rfl) ?_
          refine l_q rfl rfl rfl (q_move rfl rfl) ?_
          refine l_q rfl rfl rfl (q_slice_str_to rfl Tryz.underlying9 rfl rfl (by decide)) ?_
          refine l_e rfl rfl rfl (e_buildSlice1 rfl Tryz.underlying25 ti9 rfl rfl rfl (by first | exact One.cells (by assumption) | rfl) rfl) ?_
          rintro _ _ _ ⟨b27, rfl, rfl, rfl⟩
          refine l_heap (H' := tvec 9 1 stC (.slice (some ⟨b27, 0, none⟩) 1 1) [[123]] :: _) ?_ (fun _ h => st_rowVec h rfl (by decide))
          refine l_freezeT (f := stC) (l := [[123]]) (.slice (some ⟨b27, 0, none⟩) 1 1) (fun _ => rfl) (fun Jf hJf hvf => ?_)
          have hLe := hLe.trans hJf
          refine l_e rfl rfl rfl (eff_call rfl rfl rfl Tryz.func92 (by kernel_rfl) rfl (fun w hw => wword_calls b (.slice (some ⟨b27, 0, none⟩) 1 1) [[123]] p vb L _ _ _ w hp hbo (by simp only [List.flatten_cons, List.flatten_nil, List.length_append, List.length_nil, List.length_cons]; omega) hvf (by simp) (picks_st2 (row b 72 [.pointer p, vb, nilS', .bool false]) (tvec 5 1 byC vb L) hw))) ?_
          rintro _ J _ ⟨rfl, hJ, p, vb, L, hp, hbo, hL28, rfl⟩
          have hLe := hLe.trans hJ
          have hl28 := congrArg List.length hL28
          simp only [List.length_append, List.length_cons, List.length_nil, List.flatten_cons, List.flatten_nil] at hl28
          refine l_nil ?_
          refine n_then ?_
          refine t_seq ?_
          refine t_region ?_
          refine l_q rfl rfl rfl (q_move rfl rfl) ?_
          refine l_q rfl rfl rfl (q_fieldAddr rfl Tryz.underlying29 rfl rfl ti27 rfl rfl) ?_
          refine l_q rfl rfl rfl (q_load_row rfl Tryz.underlying27 rfl rfl (by rfl)) ?_
          refine l_q rfl rfl rfl ((by first | exact q_indexAddrVN rfl Tryz.underlying27 ti29 rfl rfl (by omega) | exact q_indexAddrN rfl Tryz.underlying27 ti29 rfl rfl (Sl.shape (n := 1) (h7.mono hLe) rfl) (by omega) | exact q_indexAddrV rfl Tryz.underlying27 ti29 rfl rfl (by omega) | exact q_indexAddr rfl Tryz.underlying27 ti29 rfl rfl (Sl.shape (n := 1) (h7.mono hLe) rfl) (by omega))) ?_
          refine l_q rfl rfl rfl ((by first | exact q_load_rowA rfl Tryz.underlying29 ti29 rfl rfl rfl | exact q_load_agg rfl Tryz.underlying29 ti29 rfl rfl ((h7.mono hLe).rds (i := 0) (cs := ncC ca) rfl))) ?_
          refine l_q rfl rfl rfl (q_move rfl rfl) ?_
          refine l_e rfl rfl rfl (eff_call rfl rfl rfl Tryz.func93 (by kernel_rfl) rfl (fun w hw => hB b ca d p vb L _ _ _ w hp hbo (hca.mono hLe) hd (by simp only [List.length_append, List.length_cons, List.length_nil]; omega) (picks_st2 (row b 72 [.pointer p, vb, nilS', .bool false]) (tvec 5 1 byC vb L) hw))) ?_
          rintro _ J _ ⟨rfl, hJ, p, vb, L, hp, hbo, hL35, rfl⟩
          have hLe := hLe.trans hJ
          have hl35 := congrArg List.length hL35
          simp only [List.length_append, List.length_cons, List.length_nil, List.flatten_cons, List.flatten_nil] at hl35
          refine l_nil ?_
          refine n_then ?_
          refine t_region ?_
          refine l_q rfl rfl rfl (q_move rfl rfl) ?_
          refine l_q rfl rfl rfl (q_move rfl rfl) ?_
          refine l_q rfl rfl rfl (q_slice_str_from rfl Tryz.underlying9 rfl rfl (by decide)) ?_
          refine l_e rfl rfl rfl (e_buildSlice1 rfl Tryz.underlying25 ti9 rfl rfl rfl (by first | exact One.cells (by assumption) | rfl) rfl) ?_
          rintro _ _ _ ⟨b39, rfl, rfl, rfl⟩
          refine l_heap (H' := tvec 9 1 stC (.slice (some ⟨b39, 0, none⟩) 1 1) [[125]] :: _) ?_ (fun _ h => st_rowVec h rfl (by decide))
          refine l_freezeT (f := stC) (l := [[125]]) (.slice (some ⟨b39, 0, none⟩) 1 1) (fun _ => rfl) (fun Jg hJg hvg => ?_)
          have hLe := hLe.trans hJg
          refine l_e rfl rfl rfl (eff_call rfl rfl rfl Tryz.func42 (by kernel_rfl) rfl (fun w hw => wput_calls b (.slice (some ⟨b39, 0, none⟩) 1 1) [[125]] p vb L _ _ _ w hp hbo (by simp only [List.flatten_cons, List.flatten_nil, List.length_append, List.length_nil, List.length_cons]; omega) hvg (by simp) (picks_st2 (row b 72 [.pointer p, vb, nilS', .bool false]) (tvec 5 1 byC vb L) hw))) ?_
          rintro _ J _ ⟨rfl, hJ, p, vb, L, hp, hbo, hL40, rfl⟩
          have hLe := hLe.trans hJ
          have hl40 := congrArg List.length hL40
          simp only [List.length_append, List.length_cons, List.length_nil, List.flatten_cons, List.flatten_nil] at hl40
          refine l_nil ?_
          refine n_block ?_
          refine n_end0 rfl (fun w' hw => ?_)
          -- leaf 0
          exact ⟨_, rfl, J, _, ⟨rfl, hLe, p, vb, L, hp, hbo, by rw [hL40, hL35, hL28] <;> simp [List.append_assoc], rfl⟩, subC_st hw⟩
        · skip
          try simp at hc3
      · skip
        try simp at hc2
    · skip
      try simp at hc1
set_option maxRecDepth 10000 in
theorem ifs_of (a e : Nd) (oa oe : List UInt8) (m : Nat) (hA : BodyC a oa m) (hE : BodyC e oe m) (b : Nat) (c : NC) (d : Nat) (p0 : Option Addr) (vb0 : Value) (L0 : List UInt8) (I : Look) (F : List HA) (w0 w : World) (hp0 : p0 = none ∨ p0 = some ⟨b, 0, none⟩) (hbo0 : BufOk vb0 L0) (hn : NdAt I (ndK 9 [a, e]) c) (hd : d + m ≤ 900) (hl : L0.length + (ifT oa oe ++ [102, 105]).length ≤ 131072) (hw0 : St w0 I (row b 72 [.pointer p0, vb0, nilS', .bool false] :: tvec 5 1 byC vb0 L0 :: F) w) : Calls Tryz.prog 94 [pAt b, .agg (ncC c).toArray, .int .i64 (d : Int)].toArray w (fun e w' => ∃ v, e = .returned v ∧ ∃ I' H', WrPost b L0 (ifT oa oe ++ [102, 105]) I F v I' H' ∧ St w I' H' w') := by
  have hLe := Le.refl I
  obtain ⟨ck, cnt, ci, cnm, wv, rv, kv⟩ := c
  have hone := hn.ones
  unfold ndK NdAt at hn
  obtain ⟨h1, h2, h3, h4, h5, h6, cs, h7, h8⟩ := hn
  dsimp only at h1 h2 h3 h4 h5 h6 h7
  subst h1 h2 h3 h4
  obtain ⟨ca, ce, rfl, hca, hce⟩ := nds2 h8
  rw [List.length_append, ifT_len] at hl
  simp only [List.length_cons, List.length_nil] at hl
  refine enter Tryz.func94 rfl Tryz.ntmps94 rfl (hw0.self) ?_
  refine t_seq ?_
  refine t_region ?_
  refine l_e rfl rfl rfl (e_box rfl rfl rfl) ?_
  rintro _ _ _ ⟨b4, rfl, rfl, rfl⟩
  refine l_heap (H' := row b4 29 (ncC ⟨9, false, false, [], wv, rv, kv⟩) :: _) ?_ (fun _ h => h)
  refine l_nil ?_
  refine n_then ?_
  refine t_seq ?_
  refine t_region ?_
  refine l_q rfl rfl rfl (q_assign rfl rfl) ?_
  refine l_nil ?_
  refine n_then ?_
  refine t_seq ?_
  refine t_region ?_
  refine l_q rfl rfl rfl (q_fieldAddr rfl Tryz.underlying29 rfl rfl ti27 rfl rfl) ?_
  refine l_q rfl rfl rfl (q_load_row rfl Tryz.underlying27 rfl rfl (by rfl)) ?_
  refine l_q rfl rfl rfl (q_assign rfl rfl) ?_
  refine l_nil ?_
  refine n_then ?_
  refine t_seq ?_
  refine t_block ?_
  refine t_loopE (ι := Nat × Value × Option Addr × Value × List UInt8 × Look) (fun zz => Le I zz.2.2.2.2.2 ∧ zz.1 ≤ 1 ∧ Sl zz.2.2.2.2.2 7 zz.2.1 ((if zz.1 = 0 then [ca, ce] else []).map ncC) ∧ (zz.2.2.1 = none ∨ zz.2.2.1 = some ⟨b, 0, none⟩) ∧ BufOk zz.2.2.2.1 zz.2.2.2.2.1 ∧ zz.2.2.2.2.1 = L0 ++ (if zz.1 = 0 then [] else ifT oa oe)) (fun zz => 1 - zz.1) (fun zz => [(7, zz.2.1), (6, str (if zz.1 = 0 then [105, 102] else [101, 108, 105, 102]))]) [(0, _), (1, _), (2, _), (4, _)] (fun zz => zz.2.2.2.2.2) (fun zz => (row b4 29 (ncC ⟨9, false, false, [], wv, rv, kv⟩) :: row b 72 [.pointer zz.2.2.1, zz.2.2.2.1, nilS', .bool false] :: tvec 5 1 byC zz.2.2.2.1 zz.2.2.2.2.1 :: F)) (0, kv, p0, vb0, L0, I) ?_ (sub_cons rfl (sub_cons rfl sub_nil)) (sub_cons rfl (sub_cons rfl (sub_cons rfl (sub_cons rfl sub_nil)))) (fun _ h => subC_st h) ?_
  · try dsimp only
    exact ⟨hLe, Nat.zero_le _, h7, hp0, hbo0, by simp⟩
  rintro ⟨i, v, p, vb, L, J⟩ ⟨hLe, hi, hv, hp, hbo, hLx⟩
  try dsimp only at *
  have hJx := Le.refl J
  refine t_seq ?_
  refine t_seq ?_
  refine t_region ?_
  refine l_q rfl rfl rfl (q_move rfl rfl) ?_
  refine l_q rfl rfl rfl ((by first | exact q_lenV rfl Tryz.underlying27 rfl | exact q_len rfl Tryz.underlying27 rfl (Sl.lenOf (n := 2 - 2 * i) (hv.mono hJx) (by by_cases h : i = 0 <;> simp [h] <;> omega)) | exact q_len rfl Tryz.underlying27 rfl (Sl.lenOf (n := 2) (hv2.mono hJx) rfl) | exact q_len rfl Tryz.underlying27 rfl (Sl.lenOf (n := 0) (hv.mono hJx) (by simp)))) ?_
  refine l_q rfl rfl rfl (q_gtr rfl rfl rfl) ?_
  refine l_nil ?_
  refine n_then ?_
  refine t_cond rfl (fun hc0 => ?_) (fun hc0 => ?_)
  · skip
    try simp at hc0
    have hi0 : i = 0 := by omega
    subst hi0
    have hv2 : Sl _ 7 v ([ca, ce].map ncC) := hv
    have hlx := congrArg List.length hLx
    simp only [List.length_append, if_pos, List.length_nil] at hlx
    rw [if_pos rfl]
    refine t_skip ?_
    refine n_then ?_
    refine t_seq ?_
    refine t_block ?_
    refine t_seq ?_
    refine t_region ?_
    refine l_q rfl rfl rfl (q_move rfl rfl) ?_
    refine l_q rfl rfl rfl (q_move rfl rfl) ?_
    refine l_e rfl rfl rfl (e_buildSlice1 rfl Tryz.underlying25 ti9 rfl rfl rfl (by first | exact One.cells (by assumption) | rfl) rfl) ?_
    rintro _ _ _ ⟨b17, rfl, rfl, rfl⟩
    refine l_heap (H' := tvec 9 1 stC (.slice (some ⟨b17, 0, none⟩) 1 1) [[105, 102]] :: _) ?_ (fun _ h => st_rowVec h rfl (by decide))
    refine l_freezeT (f := stC) (l := [[105, 102]]) (.slice (some ⟨b17, 0, none⟩) 1 1) (fun _ => rfl) (fun Jf hJf hvf => ?_)
    have hLe := hLe.trans hJf
    have hJx := hJx.trans hJf
    refine l_e rfl rfl rfl (eff_call rfl rfl rfl Tryz.func92 (by kernel_rfl) rfl (fun w hw => wword_calls b (.slice (some ⟨b17, 0, none⟩) 1 1) [[105, 102]] p vb L _ _ _ w hp hbo (by simp only [List.flatten_cons, List.flatten_nil, List.length_append, List.length_nil, List.length_cons]; omega) hvf (by simp) (picks_st2 (row b 72 [.pointer p, vb, nilS', .bool false]) (tvec 5 1 byC vb L) hw))) ?_
    rintro _ J _ ⟨rfl, hJ, p, vb, L, hp, hbo, hL18, rfl⟩
    have hLe := hLe.trans hJ
    have hl18 := congrArg List.length hL18
    simp only [List.length_append, List.length_cons, List.length_nil, List.flatten_cons, List.flatten_nil] at hl18
    have hJx := hJx.trans hJ
    refine l_nil ?_
    refine n_then ?_
    refine t_seq ?_
    refine t_region ?_
    refine l_q rfl rfl rfl (q_move rfl rfl) ?_
    refine l_q rfl rfl rfl (q_move rfl rfl) ?_
    refine l_q rfl rfl rfl ((by first | exact q_indexAddrVN rfl Tryz.underlying27 ti29 rfl rfl (by omega) | exact q_indexAddrN rfl Tryz.underlying27 ti29 rfl rfl (Sl.shape (n := 2) (hv2.mono hJx) rfl) (by omega) | exact q_indexAddrV rfl Tryz.underlying27 ti29 rfl rfl (by omega) | exact q_indexAddr rfl Tryz.underlying27 ti29 rfl rfl (Sl.shape (n := 2) (hv2.mono hJx) rfl) (by omega))) ?_
    refine l_q rfl rfl rfl ((by first | exact q_load_rowA rfl Tryz.underlying29 ti29 rfl rfl rfl | exact q_load_agg rfl Tryz.underlying29 ti29 rfl rfl ((hv2.mono hJx).rds (i := 0) (cs := ncC ca) rfl) | exact q_load_agg rfl Tryz.underlying29 ti29 rfl rfl ((hv2.mono hJx).rds (i := 1) (cs := ncC ce) rfl))) ?_
    refine l_q rfl rfl rfl (q_move rfl rfl) ?_
    refine l_e rfl rfl rfl (eff_call rfl rfl rfl Tryz.func93 (by kernel_rfl) rfl (fun w hw => hA b ca d p vb L _ _ _ w hp hbo (hca.mono hLe) hd (by simp only [List.length_append, List.length_cons, List.length_nil]; omega) (picks_st2 (row b 72 [.pointer p, vb, nilS', .bool false]) (tvec 5 1 byC vb L) hw))) ?_
    rintro _ J _ ⟨rfl, hJ, p, vb, L, hp, hbo, hL24, rfl⟩
    have hLe := hLe.trans hJ
    have hl24 := congrArg List.length hL24
    simp only [List.length_append, List.length_cons, List.length_nil, List.flatten_cons, List.flatten_nil] at hl24
    have hJx := hJx.trans hJ
    refine l_nil ?_
    refine n_then ?_
    refine t_seq ?_
    refine t_region ?_
    refine l_q rfl rfl rfl (q_move rfl rfl) ?_
    refine l_e rfl rfl rfl (e_buildSlice1 rfl Tryz.underlying25 ti9 rfl rfl rfl (by first | exact One.cells (by assumption) | rfl) rfl) ?_
    rintro _ _ _ ⟨b26, rfl, rfl, rfl⟩
    refine l_heap (H' := tvec 9 1 stC (.slice (some ⟨b26, 0, none⟩) 1 1) [[116, 104, 101, 110]] :: _) ?_ (fun _ h => st_rowVec h rfl (by decide))
    refine l_freezeT (f := stC) (l := [[116, 104, 101, 110]]) (.slice (some ⟨b26, 0, none⟩) 1 1) (fun _ => rfl) (fun Jg hJg hvg => ?_)
    have hLe := hLe.trans hJg
    have hJx := hJx.trans hJg
    refine l_e rfl rfl rfl (eff_call rfl rfl rfl Tryz.func92 (by kernel_rfl) rfl (fun w hw => wword_calls b (.slice (some ⟨b26, 0, none⟩) 1 1) [[116, 104, 101, 110]] p vb L _ _ _ w hp hbo (by simp only [List.flatten_cons, List.flatten_nil, List.length_append, List.length_nil, List.length_cons]; omega) hvg (by simp) (picks_st2 (row b 72 [.pointer p, vb, nilS', .bool false]) (tvec 5 1 byC vb L) hw))) ?_
    rintro _ J _ ⟨rfl, hJ, p, vb, L, hp, hbo, hL27, rfl⟩
    have hLe := hLe.trans hJ
    have hl27 := congrArg List.length hL27
    simp only [List.length_append, List.length_cons, List.length_nil, List.flatten_cons, List.flatten_nil] at hl27
    have hJx := hJx.trans hJ
    refine l_nil ?_
    refine n_then ?_
    refine t_seq ?_
    refine t_region ?_
    refine l_q rfl rfl rfl (q_move rfl rfl) ?_
    refine l_q rfl rfl rfl (q_move rfl rfl) ?_
    refine l_q rfl rfl rfl ((by first | exact q_indexAddrVN rfl Tryz.underlying27 ti29 rfl rfl (by omega) | exact q_indexAddrN rfl Tryz.underlying27 ti29 rfl rfl (Sl.shape (n := 2) (hv2.mono hJx) rfl) (by omega) | exact q_indexAddrV rfl Tryz.underlying27 ti29 rfl rfl (by omega) | exact q_indexAddr rfl Tryz.underlying27 ti29 rfl rfl (Sl.shape (n := 2) (hv2.mono hJx) rfl) (by omega))) ?_
    refine l_q rfl rfl rfl ((by first | exact q_load_rowA rfl Tryz.underlying29 ti29 rfl rfl rfl | exact q_load_agg rfl Tryz.underlying29 ti29 rfl rfl ((hv2.mono hJx).rds (i := 0) (cs := ncC ca) rfl) | exact q_load_agg rfl Tryz.underlying29 ti29 rfl rfl ((hv2.mono hJx).rds (i := 1) (cs := ncC ce) rfl))) ?_
    refine l_q rfl rfl rfl (q_move rfl rfl) ?_
    refine l_e rfl rfl rfl (eff_call rfl rfl rfl Tryz.func93 (by kernel_rfl) rfl (fun w hw => hE b ce d p vb L _ _ _ w hp hbo (hce.mono hLe) hd (by simp only [List.length_append, List.length_cons, List.length_nil]; omega) (picks_st2 (row b 72 [.pointer p, vb, nilS', .bool false]) (tvec 5 1 byC vb L) hw))) ?_
    rintro _ J _ ⟨rfl, hJ, p, vb, L, hp, hbo, hL33, rfl⟩
    have hLe := hLe.trans hJ
    have hl33 := congrArg List.length hL33
    simp only [List.length_append, List.length_cons, List.length_nil, List.flatten_cons, List.flatten_nil] at hl33
    have hJx := hJx.trans hJ
    refine l_nil ?_
    refine n_then ?_
    refine t_region ?_
    refine l_q rfl rfl rfl (q_assign rfl rfl) ?_
    refine l_nil ?_
    refine n_block ?_
    refine n_then ?_
    refine t_region ?_
    refine l_q rfl rfl rfl (q_move rfl rfl) ?_
    refine l_q rfl rfl rfl ((by first | exact q_slice_from rfl Tryz.underlying27 ti29 rfl rfl (Sl.lenOf (n := 2 - 2 * i) (hv.mono hJx) (by by_cases h : i = 0 <;> simp [h] <;> omega)) (by omega) | exact q_slice_from rfl Tryz.underlying27 ti29 rfl rfl (Sl.lenOf (n := 2) (hv2.mono hJx) rfl) (by omega) | exact q_slice_from rfl Tryz.underlying27 ti29 rfl rfl (Sl.lenOf (n := 0) (hv.mono hJx) (by simp)) (by omega))) ?_
    refine l_q rfl rfl rfl (q_assign rfl rfl) ?_
    refine l_nil ?_
    refine n_roundE ((1, cutV 7 2 2 v, p, vb, L, J)) ?_ ?_ (sub_cons rfl (sub_cons rfl sub_nil)) (sub_cons rfl (sub_cons rfl (sub_cons rfl (sub_cons rfl sub_nil)))) (fun _ h => by try dsimp only; exact subC_st h)
    · try dsimp only
      exact ⟨hLe, Nat.le_refl _, by have := Sl.dropM (hv2.mono hJx) (n := 2) rfl (Nat.le_refl 2); simpa using this, hp, hbo, by rw [hL33, hL27, hL24, hL18, hLx]; simp [ifT]⟩
    · try dsimp only
      omega
  · skip
    try simp at hc0
    have hi1 : i = 1 := by omega
    subst hi1
    have hLx : L = L0 ++ ifT oa oe := hLx
    have hlx := congrArg List.length hLx
    rw [List.length_append, ifT_len] at hlx
    refine t_exit ?_
    refine n_exit_then ?_
    refine n_exit_then ?_
    refine n_exit_block ?_
    refine n_then ?_
    refine t_seq ?_
    refine t_seq ?_
    refine t_region ?_
    refine l_q rfl rfl rfl (q_move rfl rfl) ?_
    refine l_q rfl rfl rfl ((by first | exact q_lenV rfl Tryz.underlying27 rfl | exact q_len rfl Tryz.underlying27 rfl (Sl.lenOf (n := 2 - 2 * i) (hv.mono hJx) (by by_cases h : i = 0 <;> simp [h] <;> omega)) | exact q_len rfl Tryz.underlying27 rfl (Sl.lenOf (n := 2) (hv2.mono hJx) rfl) | exact q_len rfl Tryz.underlying27 rfl (Sl.lenOf (n := 0) (hv.mono hJx) (by simp)))) ?_
    refine l_q rfl rfl rfl (q_eql rfl rfl rfl) ?_
    refine l_nil ?_
    refine n_then ?_
    refine t_cond rfl (fun hc1 => ?_) (fun hc1 => ?_)
    · skip
      try simp at hc1
    · skip
      try simp at hc1
      refine t_skip ?_
      refine n_then ?_
      refine t_region ?_
      refine l_q rfl rfl rfl (q_move rfl rfl) ?_
      refine l_e rfl rfl rfl (e_buildSlice1 rfl Tryz.underlying25 ti9 rfl rfl rfl (by first | exact One.cells (by assumption) | rfl) rfl) ?_
      rintro _ _ _ ⟨b47, rfl, rfl, rfl⟩
      refine l_heap (H' := tvec 9 1 stC (.slice (some ⟨b47, 0, none⟩) 1 1) [[102, 105]] :: _) ?_ (fun _ h => st_rowVec h rfl (by decide))
      refine l_freezeT (f := stC) (l := [[102, 105]]) (.slice (some ⟨b47, 0, none⟩) 1 1) (fun _ => rfl) (fun Jk hJk hvk => ?_)
      have hLe := hLe.trans hJk
      refine l_e rfl rfl rfl (eff_call rfl rfl rfl Tryz.func42 (by kernel_rfl) rfl (fun w hw => wput_calls b (.slice (some ⟨b47, 0, none⟩) 1 1) [[102, 105]] p vb L _ _ _ w hp hbo (by simp only [List.flatten_cons, List.flatten_nil, List.length_append, List.length_nil, List.length_cons]; omega) hvk (by simp) (picks_st2 (row b 72 [.pointer p, vb, nilS', .bool false]) (tvec 5 1 byC vb L) hw))) ?_
      rintro _ J _ ⟨rfl, hJ, p, vb, L, hp, hbo, hL48, rfl⟩
      have hLe := hLe.trans hJ
      have hl48 := congrArg List.length hL48
      simp only [List.length_append, List.length_cons, List.length_nil, List.flatten_cons, List.flatten_nil] at hl48
      refine l_nil ?_
      refine n_end0 rfl (fun w' hw => ?_)
      -- leaf 0
      exact ⟨_, rfl, J, _, ⟨rfl, hLe, p, vb, L, hp, hbo, by rw [hL48, hLx]; simp [List.append_assoc], rfl⟩, subC_st hw⟩
set_option maxRecDepth 10000 in
theorem comp9 (a e : Nd) (oa oe : List UInt8) (m : Nat) (hA : BodyC a oa m) (hE : BodyC e oe m) : CompC (ndK 9 [a, e]) (ifT oa oe ++ [102, 105]) m := by
  intro b c d p vb L I F w0 w hp hbo hn hd hl hw0
  have hLe := Le.refl I
  have hnn := hn
  obtain ⟨ck, cnt, ci, cnm, wv, rv, kv⟩ := c
  have hone := hn.ones
  unfold ndK NdAt at hn
  obtain ⟨h1, h2, h3, h4, h5, h6, cs, h7, h8⟩ := hn
  dsimp only at h1 h2 h3 h4 h5 h6 h7
  subst h1 h2 h3 h4
  obtain ⟨ca, ce, rfl, hca, hce⟩ := nds2 h8
  refine enter Tryz.func70 rfl Tryz.ntmps70 rfl (hw0.self) ?_
  refine t_seq ?_
  refine t_region ?_
  refine l_e rfl rfl rfl (e_box rfl rfl rfl) ?_
  rintro _ _ _ ⟨b4, rfl, rfl, rfl⟩
  refine l_heap (H' := row b4 29 (ncC ⟨9, false, false, [], wv, rv, kv⟩) :: _) ?_ (fun _ h => h)
  refine l_nil ?_
  refine n_then ?_
  refine t_seq ?_
  refine t_region ?_
  refine l_q rfl rfl rfl (q_fieldAddr rfl Tryz.underlying29 rfl rfl ti3 rfl rfl) ?_
  refine l_q rfl rfl rfl (q_load_row rfl Tryz.underlying3 rfl rfl (by rfl)) ?_
  refine l_nil ?_
  refine n_then ?_
  refine t_block ?_
  refine t_seq ?_
  refine t_seq ?_
  refine t_region ?_
  refine l_q rfl rfl rfl (q_eql rfl rfl rfl) ?_
  refine l_q rfl rfl rfl (q_assign rfl rfl) ?_
  refine l_nil ?_
  refine n_then ?_
  refine t_cond rfl (fun hc0 => ?_) (fun hc0 => ?_)
  · skip
    try simp at hc0
  · skip
    try simp at hc0
    refine t_region ?_
    refine l_q rfl rfl rfl (q_eql rfl rfl rfl) ?_
    refine l_q rfl rfl rfl (q_assign rfl rfl) ?_
    refine l_nil ?_
    refine n_then ?_
    refine t_cond rfl (fun hc1 => ?_) (fun hc1 => ?_)
    · skip
      try simp at hc1
    · skip
      try simp at hc1
      refine t_seq ?_
      refine t_region ?_
      refine l_q rfl rfl rfl (q_eql rfl rfl rfl) ?_
      refine l_q rfl rfl rfl (q_assign rfl rfl) ?_
      refine l_nil ?_
      refine n_then ?_
      refine t_cond rfl (fun hc2 => ?_) (fun hc2 => ?_)
      · skip
        try simp at hc2
        refine t_seq ?_
        refine t_region ?_
        refine l_q rfl rfl rfl (q_move rfl rfl) ?_
        refine l_q rfl rfl rfl (q_load_rowA rfl Tryz.underlying29 ti29 rfl rfl rfl) ?_
        refine l_q rfl rfl rfl (q_fieldAddr rfl Tryz.underlying29 rfl rfl ti27 rfl rfl) ?_
        refine l_q rfl rfl rfl (q_load_row rfl Tryz.underlying27 rfl rfl (by rfl)) ?_
        refine l_q rfl rfl rfl ((by first | exact q_lenV rfl Tryz.underlying27 rfl | exact q_len rfl Tryz.underlying27 rfl (Sl.lenOf (n := 2) h7 rfl))) ?_
        refine l_e rfl rfl rfl (eff_call rfl rfl rfl Tryz.func69 (by kernel_rfl) rfl (fun w hw => wkids_calls b ⟨9, false, false, [], wv, rv, kv⟩ 2 2 2 (by decide) (by decide) (Sl.lenOf (n := 2) h7 rfl) p vb _ _ _ w (picks_st1 (row b 72 [.pointer p, vb, nilS', .bool false]) hw))) ?_
        rintro _ _ _ ⟨rfl, rfl, rfl⟩
        refine l_nil ?_
        refine n_then ?_
        refine t_cond rfl (fun hc3 => ?_) (fun hc3 => ?_)
        · skip
          try simp at hc3
          refine t_region ?_
          refine l_q rfl rfl rfl (q_move rfl rfl) ?_
          refine l_q rfl rfl rfl (q_load_rowA rfl Tryz.underlying29 ti29 rfl rfl rfl) ?_
          refine l_q rfl rfl rfl (q_move rfl rfl) ?_
          refine l_e rfl rfl rfl (eff_call rfl rfl rfl Tryz.func94 (by kernel_rfl) rfl (fun w hw => ifs_of a e oa oe m hA hE b ⟨9, false, false, [], wv, rv, kv⟩ d p vb L _ _ _ w hp hbo hnn hd hl (picks_st2 (row b 72 [.pointer p, vb, nilS', .bool false]) (tvec 5 1 byC vb L) hw))) ?_
          rintro _ J _ ⟨rfl, hJ, p, vb, L, hp, hbo, hL52, rfl⟩
          have hLe := hLe.trans hJ
          have hl52 := congrArg List.length hL52
          simp only [List.length_append, List.length_cons, List.length_nil, List.flatten_cons, List.flatten_nil] at hl52
          refine l_nil ?_
          refine n_block ?_
          refine n_end0 rfl (fun w' hw => ?_)
          -- leaf 0
          exact ⟨_, rfl, J, _, ⟨rfl, hLe, p, vb, L, hp, hbo, by rw [hL52] <;> simp [List.append_assoc], rfl⟩, subC_st hw⟩
        · skip
          try simp at hc3
      · skip
        try simp at hc2
set_option maxRecDepth 10000 in
theorem showComp (k : Nat) (hk : k = 7 ∨ k = 8 ∨ k = 9) (ks : List Nd) (out : List UInt8) (m : Nat) (hC : CompC (ndK k ks) out m) : ShowC (ndK k ks) out (m + 1) := by
  intro b c d p vb L I F w0 w hp hbo hn hd hl hw0
  have hLe := Le.refl I
  have hnn := hn
  obtain ⟨ck, cnt, ci, cnm, wv, rv, kv⟩ := c
  have hone := hn.ones
  unfold ndK NdAt at hn
  obtain ⟨h1, h2, h3, h4, h5, h6, cs, h7, h8⟩ := hn
  dsimp only at h1 h2 h3 h4 h5 h6 h7
  subst h1 h2 h3 h4
  refine enter Tryz.func41 rfl Tryz.ntmps41 rfl (hw0.self) ?_
  refine t_seq ?_
  refine t_region ?_
  refine l_e rfl rfl rfl (e_box rfl rfl rfl) ?_
  rintro _ _ _ ⟨b4, rfl, rfl, rfl⟩
  refine l_heap (H' := row b4 29 (ncC ⟨ck, false, false, [], wv, rv, kv⟩) :: _) ?_ (fun _ h => h)
  refine l_nil ?_
  refine n_then ?_
  refine t_seq ?_
  refine t_seq ?_
  refine t_qreg ?_
  refine s_q rfl rfl rfl (q_move rfl rfl) ?_
  refine s_q rfl rfl rfl (q_gtr rfl rfl rfl) ?_
  refine s_q rfl rfl rfl (q_move rfl rfl) ?_
  refine s_or2 4 2 8 13 12 _ _ rfl rfl rfl rfl rfl rfl (fun h13 => by
      try simp at h13
      refine s_g rfl rfl rfl rfl rfl rfl (q_move rfl rfl) ?_
      refine s_g rfl rfl rfl rfl rfl rfl (q_nilCheck rfl rfl) ?_
      refine s_g rfl rfl rfl rfl rfl rfl (q_fieldAddr rfl Tryz.underlying72 rfl rfl ti4 rfl rfl) ?_
      refine s_g rfl rfl rfl rfl rfl rfl (q_load_row rfl Tryz.underlying4 rfl rfl (by rfl)) ?_
      exact s_val rfl
    ) (wanted_n rfl) rfl rfl rfl ?_
  refine s_done ?_
  refine n_then ?_
  refine t_cond rfl (fun hc0 => ?_) (fun hc0 => ?_)
  · skip
    exfalso
    have h9 := hc0
    simp at h9
    omega
  · skip
    refine t_skip ?_
    refine n_then ?_
    refine t_seq ?_
    refine t_region ?_
    refine l_q rfl rfl rfl (q_move rfl rfl) ?_
    refine l_q rfl rfl rfl (q_add64 rfl rfl rfl (by omega)) ?_
    rw [show ((d : Int) + 1) = ((d + 1 : Nat) : Int) from rfl]
    refine l_q rfl rfl rfl (q_assign rfl rfl) ?_
    refine l_nil ?_
    refine n_then ?_
    refine t_seq ?_
    refine t_seq ?_
    refine t_region ?_
    refine l_q rfl rfl rfl (q_fieldAddr rfl Tryz.underlying29 rfl rfl ti3 rfl rfl) ?_
    refine l_q rfl rfl rfl (q_load_row rfl Tryz.underlying3 rfl rfl (by rfl)) ?_
    refine l_nil ?_
    refine n_then ?_
    refine t_block ?_
    refine t_seq ?_
    refine t_region ?_
    refine l_q rfl rfl rfl (q_eql rfl rfl rfl) ?_
    refine l_q rfl rfl rfl (q_assign rfl rfl) ?_
    refine l_nil ?_
    refine n_then ?_
    refine t_cond rfl (fun hc1 => ?_) (fun hc1 => ?_)
    · skip
      try simp at hc1
      exfalso
      omega
    · skip
      try simp at hc1
      refine t_seq ?_
      refine t_seq ?_
      refine t_region ?_
      refine l_q rfl rfl rfl (q_eql rfl rfl rfl) ?_
      refine l_q rfl rfl rfl (q_assign rfl rfl) ?_
      refine l_nil ?_
      refine n_then ?_
      refine t_cond rfl (fun hc2 => ?_) (fun hc2 => ?_)
      · skip
        try simp at hc2
        exfalso
        omega
      · skip
        try simp at hc2
        refine t_seq ?_
        refine t_region ?_
        refine l_q rfl rfl rfl (q_eql rfl rfl rfl) ?_
        refine l_q rfl rfl rfl (q_assign rfl rfl) ?_
        refine l_nil ?_
        refine n_then ?_
        refine t_cond rfl (fun hc3 => ?_) (fun hc3 => ?_)
        · skip
          try simp at hc3
          exfalso
          omega
        · skip
          try simp at hc3
          refine t_seq ?_
          refine t_region ?_
          refine l_q rfl rfl rfl (q_eql rfl rfl rfl) ?_
          refine l_q rfl rfl rfl (q_assign rfl rfl) ?_
          refine l_nil ?_
          refine n_then ?_
          refine t_cond rfl (fun hc4 => ?_) (fun hc4 => ?_)
          · skip
            try simp at hc4
            exfalso
            omega
          · skip
            try simp at hc4
            refine t_region ?_
            refine l_q rfl rfl rfl (q_eql rfl rfl rfl) ?_
            refine l_q rfl rfl rfl (q_assign rfl rfl) ?_
            refine l_nil ?_
            refine n_then ?_
            refine t_cond rfl (fun hc5 => ?_) (fun hc5 => ?_)
            · skip
              try simp at hc5
              exfalso
              omega
            · skip
              try simp at hc5
              refine t_seq ?_
              refine t_region ?_
              refine l_q rfl rfl rfl (q_eql rfl rfl rfl) ?_
              refine l_q rfl rfl rfl (q_assign rfl rfl) ?_
              refine l_nil ?_
              refine n_then ?_
              refine t_cond rfl (fun hc6 => ?_) (fun hc6 => ?_)
              · skip
                try simp at hc6
                exfalso
                omega
              · skip
                try simp at hc6
                refine t_skip ?_
                refine n_block ?_
                refine n_then ?_
                refine t_seq ?_
                refine t_region ?_
                refine l_q rfl rfl rfl (q_move rfl rfl) ?_
                refine l_q rfl rfl rfl (q_load_rowA rfl Tryz.underlying29 ti29 rfl rfl rfl) ?_
                refine l_q rfl rfl rfl (q_move rfl rfl) ?_
                refine l_e rfl rfl rfl (eff_call rfl rfl rfl Tryz.func70 (by kernel_rfl) rfl (fun w hw => hC b ⟨ck, false, false, [], wv, rv, kv⟩ (d + 1) p vb L _ _ _ w hp hbo hnn (by omega) hl (picks_st2 (row b 72 [.pointer p, vb, nilS', .bool false]) (tvec 5 1 byC vb L) hw))) ?_
                rintro _ J _ ⟨rfl, hJ, p, vb, L, hp, hbo, hL66, rfl⟩
                have hLe := hLe.trans hJ
                have hl66 := congrArg List.length hL66
                simp only [List.length_append, List.length_cons, List.length_nil, List.flatten_cons, List.flatten_nil] at hl66
                refine l_nil ?_
                refine n_then ?_
                refine t_region ?_
                refine l_q rfl rfl rfl (q_move rfl rfl) ?_
                refine l_q rfl rfl rfl (q_fieldAddr rfl Tryz.underlying29 rfl rfl ti26 rfl rfl) ?_
                refine l_q rfl rfl rfl (q_load_row rfl Tryz.underlying26 rfl rfl (by rfl)) ?_
                refine l_e rfl rfl rfl (eff_call rfl rfl rfl Tryz.func67 (by kernel_rfl) rfl (fun w hw => wredirs_calls b rv true _ _ _ w (h6.mono hLe) hw)) ?_
                rintro _ _ _ ⟨rfl, rfl, rfl⟩
                refine l_nil ?_
                refine n_end0 rfl (fun w' hw => ?_)
                -- leaf 0
                exact ⟨_, rfl, J, _, ⟨rfl, hLe, p, vb, L, hp, hbo, by rw [hL66] <;> simp [List.append_assoc], rfl⟩, subC_st hw⟩
set_option maxRecDepth 10000 in
theorem showFn (nm : List UInt8) (k : Nd) (out : List UInt8) (m : Nat) (hS : ShowC k out m) : ShowC (.mk 14 false false nm [] [] [k]) (nm ++ [40, 41, 32] ++ out) (m + 1) := by
  intro b c d p vb L I F w0 w hp hbo hn hd hl hw0
  have hLe := Le.refl I
  obtain ⟨ck, cnt, ci, cnm, wv, rv, kv⟩ := c
  have hone := hn.ones
  unfold NdAt at hn
  obtain ⟨h1, h2, h3, h4, h5, h6, cs, h7, h8⟩ := hn
  dsimp only at h1 h2 h3 h4 h5 h6 h7
  subst h1 h2 h3 h4
  obtain ⟨ca, rfl, hca⟩ := nds1 h8
  simp only [List.length_append, List.length_cons, List.length_nil] at hl
  refine enter Tryz.func41 rfl Tryz.ntmps41 rfl (hw0.self) ?_
  refine t_seq ?_
  refine t_region ?_
  refine l_e rfl rfl rfl (e_box rfl rfl rfl) ?_
  rintro _ _ _ ⟨b4, rfl, rfl, rfl⟩
  refine l_heap (H' := row b4 29 (ncC ⟨14, false, false, cnm, wv, rv, kv⟩) :: _) ?_ (fun _ h => h)
  refine l_nil ?_
  refine n_then ?_
  refine t_seq ?_
  refine t_seq ?_
  refine t_qreg ?_
  refine s_q rfl rfl rfl (q_move rfl rfl) ?_
  refine s_q rfl rfl rfl (q_gtr rfl rfl rfl) ?_
  refine s_q rfl rfl rfl (q_move rfl rfl) ?_
  refine s_or2 4 2 8 13 12 _ _ rfl rfl rfl rfl rfl rfl (fun h13 => by
      try simp at h13
      refine s_g rfl rfl rfl rfl rfl rfl (q_move rfl rfl) ?_
      refine s_g rfl rfl rfl rfl rfl rfl (q_nilCheck rfl rfl) ?_
      refine s_g rfl rfl rfl rfl rfl rfl (q_fieldAddr rfl Tryz.underlying72 rfl rfl ti4 rfl rfl) ?_
      refine s_g rfl rfl rfl rfl rfl rfl (q_load_row rfl Tryz.underlying4 rfl rfl (by rfl)) ?_
      exact s_val rfl
    ) (wanted_n rfl) rfl rfl rfl ?_
  refine s_done ?_
  refine n_then ?_
  refine t_cond rfl (fun hc0 => ?_) (fun hc0 => ?_)
  · skip
    exfalso
    have h9 := hc0
    simp at h9
    omega
  · skip
    refine t_skip ?_
    refine n_then ?_
    refine t_seq ?_
    refine t_region ?_
    refine l_q rfl rfl rfl (q_move rfl rfl) ?_
    refine l_q rfl rfl rfl (q_add64 rfl rfl rfl (by omega)) ?_
    rw [show ((d : Int) + 1) = ((d + 1 : Nat) : Int) from rfl]
    refine l_q rfl rfl rfl (q_assign rfl rfl) ?_
    refine l_nil ?_
    refine n_then ?_
    refine t_seq ?_
    refine t_seq ?_
    refine t_region ?_
    refine l_q rfl rfl rfl (q_fieldAddr rfl Tryz.underlying29 rfl rfl ti3 rfl rfl) ?_
    refine l_q rfl rfl rfl (q_load_row rfl Tryz.underlying3 rfl rfl (by rfl)) ?_
    refine l_nil ?_
    refine n_then ?_
    refine t_block ?_
    refine t_seq ?_
    refine t_region ?_
    refine l_q rfl rfl rfl (q_eql rfl rfl rfl) ?_
    refine l_q rfl rfl rfl (q_assign rfl rfl) ?_
    refine l_nil ?_
    refine n_then ?_
    refine t_cond rfl (fun hc1 => ?_) (fun hc1 => ?_)
    · skip
      try simp at hc1
    · skip
      try simp at hc1
      refine t_seq ?_
      refine t_seq ?_
      refine t_region ?_
      refine l_q rfl rfl rfl (q_eql rfl rfl rfl) ?_
      refine l_q rfl rfl rfl (q_assign rfl rfl) ?_
      refine l_nil ?_
      refine n_then ?_
      refine t_cond rfl (fun hc2 => ?_) (fun hc2 => ?_)
      · skip
        try simp at hc2
      · skip
        try simp at hc2
        refine t_seq ?_
        refine t_region ?_
        refine l_q rfl rfl rfl (q_eql rfl rfl rfl) ?_
        refine l_q rfl rfl rfl (q_assign rfl rfl) ?_
        refine l_nil ?_
        refine n_then ?_
        refine t_cond rfl (fun hc3 => ?_) (fun hc3 => ?_)
        · skip
          try simp at hc3
        · skip
          try simp at hc3
          refine t_seq ?_
          refine t_region ?_
          refine l_q rfl rfl rfl (q_eql rfl rfl rfl) ?_
          refine l_q rfl rfl rfl (q_assign rfl rfl) ?_
          refine l_nil ?_
          refine n_then ?_
          refine t_cond rfl (fun hc4 => ?_) (fun hc4 => ?_)
          · skip
            try simp at hc4
          · skip
            try simp at hc4
            refine t_region ?_
            refine l_q rfl rfl rfl (q_eql rfl rfl rfl) ?_
            refine l_q rfl rfl rfl (q_assign rfl rfl) ?_
            refine l_nil ?_
            refine n_then ?_
            refine t_cond rfl (fun hc5 => ?_) (fun hc5 => ?_)
            · skip
              try simp at hc5
            · skip
              try simp at hc5
              refine t_seq ?_
              refine t_region ?_
              refine l_q rfl rfl rfl (q_eql rfl rfl rfl) ?_
              refine l_q rfl rfl rfl (q_assign rfl rfl) ?_
              refine l_nil ?_
              refine n_then ?_
              refine t_cond rfl (fun hc6 => ?_) (fun hc6 => ?_)
              · skip
                try simp at hc6
                refine t_seq ?_
                refine t_seq ?_
                refine t_region ?_
                refine l_q rfl rfl rfl (q_move rfl rfl) ?_
                refine l_q rfl rfl rfl ((by first | exact q_load_rowA rfl Tryz.underlying29 ti29 rfl rfl rfl | exact q_load_agg rfl Tryz.underlying29 ti29 rfl rfl ((h7.mono hLe).rds (i := 0) (cs := ncC ca) rfl))) ?_
                refine l_e rfl rfl rfl (eff_call rfl rfl rfl Tryz.func69 (by kernel_rfl) rfl (fun w hw => wkids_calls b ⟨14, false, false, cnm, wv, rv, kv⟩ 1 1 1 (by decide) (by decide) (Sl.lenOf (n := 1) h7 rfl) p vb _ _ _ w (picks_st1 (row b 72 [.pointer p, vb, nilS', .bool false]) hw))) ?_
                rintro _ _ _ ⟨rfl, rfl, rfl⟩
                refine l_nil ?_
                refine n_then ?_
                refine t_cond rfl (fun hc7 => ?_) (fun hc7 => ?_)
                · skip
                  try simp at hc7
                  refine t_seq ?_
                  refine t_region ?_
                  refine l_q rfl rfl rfl (q_move rfl rfl) ?_
                  refine l_q rfl rfl rfl (q_fieldAddr rfl Tryz.underlying29 rfl rfl ti9 rfl rfl) ?_
                  refine l_q rfl rfl rfl (q_load_row rfl Tryz.underlying9 rfl rfl (by rfl)) ?_
                  refine l_e rfl rfl rfl (e_buildSliceN (vs := [_, _]) (css := [stC cnm, stC [40, 41, 32]]) rfl Tryz.underlying25 ti9 rfl rfl rfl rfl (rfl) (by simp [stC])) ?_
                  rintro _ _ _ ⟨b54, rfl, rfl, rfl⟩
                  refine l_heap (H' := tvec 9 1 stC (.slice (some ⟨b54, 0, none⟩) 2 2) [cnm, [40, 41, 32]] :: _) ?_ (fun _ h => st_rowVec h rfl (by decide))
                  refine l_freezeT (f := stC) (l := [cnm, [40, 41, 32]]) (.slice (some ⟨b54, 0, none⟩) 2 2) (fun _ => rfl) (fun Jf hJf hvf => ?_)
                  have hLe := hLe.trans hJf
                  refine l_e rfl rfl rfl (eff_call rfl rfl rfl Tryz.func42 (by kernel_rfl) rfl (fun w hw => wput_calls b (.slice (some ⟨b54, 0, none⟩) 2 2) [cnm, [40, 41, 32]] p vb L _ _ _ w hp hbo (by simp only [List.flatten_cons, List.flatten_nil, List.length_append, List.length_nil, List.length_cons]; omega) hvf (by simp) (picks_st2 (row b 72 [.pointer p, vb, nilS', .bool false]) (tvec 5 1 byC vb L) hw))) ?_
                  rintro _ J _ ⟨rfl, hJ, p, vb, L, hp, hbo, hL55, rfl⟩
                  have hLe := hLe.trans hJ
                  have hl55 := congrArg List.length hL55
                  simp only [List.length_append, List.length_cons, List.length_nil, List.flatten_cons, List.flatten_nil] at hl55
                  refine l_nil ?_
                  refine n_then ?_
                  refine t_region ?_
                  refine l_q rfl rfl rfl (q_move rfl rfl) ?_
                  refine l_q rfl rfl rfl (q_fieldAddr rfl Tryz.underlying29 rfl rfl ti27 rfl rfl) ?_
                  refine l_q rfl rfl rfl (q_load_row rfl Tryz.underlying27 rfl rfl (by rfl)) ?_
                  refine l_q rfl rfl rfl ((by first | exact q_indexAddrVN rfl Tryz.underlying27 ti29 rfl rfl (by omega) | exact q_indexAddrN rfl Tryz.underlying27 ti29 rfl rfl (Sl.shape (n := 1) (h7.mono hLe) rfl) (by omega) | exact q_indexAddrV rfl Tryz.underlying27 ti29 rfl rfl (by omega) | exact q_indexAddr rfl Tryz.underlying27 ti29 rfl rfl (Sl.shape (n := 1) (h7.mono hLe) rfl) (by omega))) ?_
                  refine l_q rfl rfl rfl ((by first | exact q_load_rowA rfl Tryz.underlying29 ti29 rfl rfl rfl | exact q_load_agg rfl Tryz.underlying29 ti29 rfl rfl ((h7.mono hLe).rds (i := 0) (cs := ncC ca) rfl))) ?_
                  refine l_q rfl rfl rfl (q_move rfl rfl) ?_
                  refine l_e rfl rfl rfl (eff_call rfl rfl rfl Tryz.func41 (by kernel_rfl) rfl (fun w hw => hS b ca (d + 1) p vb L _ _ _ w hp hbo (hca.mono hLe) (by omega) (by omega) (picks_st2 (row b 72 [.pointer p, vb, nilS', .bool false]) (tvec 5 1 byC vb L) hw))) ?_
                  rintro _ J _ ⟨rfl, hJ, p, vb, L, hp, hbo, hL62, rfl⟩
                  have hLe := hLe.trans hJ
                  have hl62 := congrArg List.length hL62
                  simp only [List.length_append, List.length_cons, List.length_nil, List.flatten_cons, List.flatten_nil] at hl62
                  refine l_nil ?_
                  refine n_then ?_
                  refine t_ret ?_
                  refine n_ret_block ?_
                  refine n_ret_then ?_
                  refine n_ret0 rfl (fun w' hw => ?_)
                  -- leaf 0
                  exact ⟨_, rfl, J, _, ⟨rfl, hLe, p, vb, L, hp, hbo, by rw [hL62, hL55] <;> simp [List.append_assoc], rfl⟩, subC_st hw⟩
                · skip
                  try simp at hc7
              · skip
                try simp at hc6
end Go.Tri
