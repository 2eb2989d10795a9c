/-
  Lines of a text, one by one.
-/
import Derived.Test.YtfnmioggkmkmcaaDoorLB3
namespace Go.Tri
open Go.Proofs Go.RowKit
theorem indexByte_lt (q : List UInt8) (c : UInt8) : Lib.indexByte q c < q.length ∨ q = [] := by
  by_cases h : Lib.indexByte q c = -1
  · cases q with
    | nil => exact .inr rfl
    | cons _ _ => left; rw [h]; simp; omega
  · have hge := Lib.indexByte_ge q c
    obtain ⟨i, hi⟩ : ∃ i : Nat, Lib.indexByte q c = i := ⟨(Lib.indexByte q c).toNat, by omega⟩
    have := (indexByte_some hi).1
    left; omega
theorem lines_next {s q : List UInt8} {nn : Nat} (hq : q ≠ []) (h : (linesB s).drop nn = linesB q) : nn + 1 ≤ ((linesB s).map stC).length ∧ ((linesB s).map stC)[nn]? = some [str (q.take (lineN q))] ∧ (linesB s).drop (nn + 1) = linesB (q.drop (lineN q)) := by
  rw [linesB_eq hq] at h
  have hlt : nn < (linesB s).length := by
    refine Classical.byContradiction fun hn => ?_
    rw [List.drop_of_length_le (by omega)] at h; cases h
  rw [drop_nth [] hlt] at h
  injection h with h1 h2
  refine ⟨by rw [List.length_map]; omega, ?_, h2⟩
  rw [List.getElem?_map, List.getElem?_eq_getElem hlt, ← nth_eq (d := []) hlt, h1]; rfl
theorem lines_end {s : List UInt8} {nn : Nat} (h : (linesB s).drop nn = []) (hn : nn ≤ (linesB s).length) : ((linesB s).map stC).length = nn := by
  rw [List.drop_eq_nil_iff] at h
  rw [List.length_map]; omega
theorem stC_line {s : List UInt8} {nn : Nat} {vs : List Value} (h : ((linesB s).map stC)[nn]? = some vs) : nn < (linesB s).length ∧ vs = [str (nth (linesB s) nn [])] := by
  obtain ⟨hlt, hx⟩ := List.getElem?_eq_some_iff.1 h
  rw [List.length_map] at hlt
  refine ⟨hlt, ?_⟩
  rw [← hx, List.getElem_map, nth_eq hlt]; rfl
theorem stC_one {l : List (List UInt8)} : ∀ vs ∈ l.map stC, vs.length = 1 := fun vs h => by
  obtain ⟨x, _, rfl⟩ := List.mem_map.1 h; rfl
set_option maxRecDepth 10000 in
theorem lines_calls (s : List UInt8) (I : Look) (F : List HA) (w0 w : World) (hw0 : St w0 I F w) : Calls Tryd.prog 11 [str s].toArray w (fun e w' => ∃ v, e = .returned v ∧ ∃ I' H', (Le I I' ∧ F = H' ∧ ∃ b, v = .func (.func 20) #[] #[.pointer (some ⟨b, 0, none⟩)] ∧ CellI I' b 0 (str s)) ∧ St w I' H' w') := by
  refine enter Tryd.func11 rfl Tryd.ntmps11 rfl (hw0.self) ?_
  refine t_seq ?_
  refine t_region ?_
  refine l_e rfl rfl rfl (e_box rfl rfl (by first | exact One.cells (by assumption) | exact One.cells ⟨rfl, rfl⟩ | rfl)) ?_
  rintro _ _ _ ⟨b1, rfl, rfl, rfl⟩
  refine l_q rfl rfl rfl (q_assign rfl rfl) ?_
  refine l_nil ?_
  refine n_then ?_
  refine t_seq ?_
  refine t_freezeRow b1 (fun J hJ h1 => ?_)
  refine t_region ?_
  refine l_q rfl rfl rfl (q_makeFunc rfl rfl rfl) ?_
  refine l_q rfl rfl rfl (q_assign rfl rfl) ?_
  refine l_nil ?_
  refine n_then ?_
  refine t_ret ?_
  refine n_ret1 rfl rfl (fun w' hw => ?_)
  -- leaf 0
  exact ⟨_, rfl, J, _, ⟨hJ, rfl, b1, rfl, h1 0 _ rfl⟩, hw⟩
set_option maxRecDepth 10000 in
theorem lines_iter (s : List UInt8) (b1 : Nat) (hs : s.length ≤ 4611686018427387904) : Iterates Tryd.prog 20 [.pointer (some ⟨b1, 0, none⟩)] ((linesB s).map stC) (fun I => CellI I b1 0 (str s)) := by
  intro γ Cd Cx G II lid hY w0 g00 F w hcd0 hb1 hw0
  have hJ := Le.refl (II g00)
  refine enter Tryd.func20 rfl Tryd.ntmps20 rfl (hw0.self) ?_
  refine t_seq ?_
  refine t_region ?_
  refine l_q rfl rfl rfl ((by first | exact q_load_row rfl Tryd.underlying9 rfl rfl (by rfl) | exact q_load rfl Tryd.underlying9 rfl rfl (rd_imm (hb1.mono hJ)))) ?_
  refine l_q rfl rfl rfl (q_assign rfl rfl) ?_
  refine l_nil ?_
  refine n_then ?_
  refine t_block ?_
  refine t_loopE (ι := List UInt8 × Nat × γ) (fun zz => zz.2.1 ≤ (linesB s).length ∧ Cd zz.2.1 zz.2.2 ∧ Le (II g00) (II zz.2.2) ∧ (linesB s).drop zz.2.1 = linesB zz.1 ∧ zz.1.length ≤ s.length) (fun zz => zz.1.length) (fun zz => [(3, str zz.1)]) [(0, _), (1, _)] (fun zz => (II zz.2.2)) (fun zz => (F ++ G zz.2.2)) (s, 0, g00) ?_ (sub_cons rfl sub_nil) (sub_cons rfl (sub_cons rfl sub_nil)) (fun _ h => subC_st h) ?_
  · try dsimp only
    exact ⟨Nat.zero_le _, hcd0, Le.refl _, rfl, Nat.le_refl _⟩
  rintro ⟨q, nn, g⟩ ⟨hn, hcd, hJ, hdr, hql⟩
  try dsimp only at *
  refine t_seq ?_
  refine t_seq ?_
  refine t_region ?_
  refine l_q rfl rfl rfl (q_move rfl rfl) ?_
  refine l_q rfl rfl rfl (q_neq_str rfl rfl rfl) ?_
  refine l_nil ?_
  refine n_then ?_
  refine t_cond rfl (fun hc0 => ?_) (fun hc0 => ?_)
  · skip
    have hqn : q ≠ [] := of_decide_eq_true hc0
    refine t_skip ?_
    refine n_then ?_
    refine t_block ?_
    refine t_seq ?_
    have hib := Lib.indexByte_ge q 10
    have hib2 : Lib.indexByte q 10 < q.length := (indexByte_lt q 10).resolve_right hqn
    refine t_region ?_
    refine l_q rfl rfl rfl (q_move rfl rfl) ?_
    refine l_q rfl rfl rfl (quiet_call rfl rfl rfl Tryd.func21 (by kernel_rfl) rfl ((fun w _ => indexByte_pure q 10 w))) ?_
    refine l_q rfl rfl rfl (q_add64 rfl rfl rfl (by omega)) ?_
    refine l_q rfl rfl rfl (q_assign rfl rfl) ?_
    refine l_nil ?_
    refine n_then ?_
    refine t_cutE (ι := Nat) (fun zz => zz = lineN q) (fun zz => [(4, .int .i64 (zz : Int))]) [(3, _), (0, _), (1, _), (7, _)] (fun zz => (II g)) (fun zz => (F ++ G g)) (sub_cons rfl (sub_cons rfl (sub_cons rfl (sub_cons rfl sub_nil)))) ?_ ?_
    · skip
      refine t_seq ?_
      refine t_region ?_
      refine l_q rfl rfl rfl (q_move rfl rfl) ?_
      refine l_q rfl rfl rfl (q_eql rfl rfl rfl) ?_
      refine l_nil ?_
      refine n_then ?_
      refine t_cond rfl (fun hc1 => ?_) (fun hc1 => ?_)
      · skip
        try simp at hc1
        refine t_region ?_
        refine l_q rfl rfl rfl (q_move rfl rfl) ?_
        refine l_q rfl rfl rfl (q_len_str rfl Tryd.underlying9 rfl) ?_
        refine l_q rfl rfl rfl (q_assign rfl rfl) ?_
        refine l_nil ?_
        refine n_cut (q.length) ?_ (sub_cons rfl sub_nil) (sub_cons rfl (sub_cons rfl (sub_cons rfl (sub_cons rfl sub_nil)))) (fun _ h => by try dsimp only; exact subC_st h)
        · try dsimp only
          rw [lineN, if_pos (by omega)]
      · skip
        try simp at hc1
        refine t_skip ?_
        refine n_cut ((Lib.indexByte q 10 + 1).toNat) ?_ (sub_cons' rfl (by congr 1; omega) (sub_nil)) (sub_cons rfl (sub_cons rfl (sub_cons rfl (sub_cons rfl sub_nil)))) (fun _ h => by try dsimp only; exact subC_st h)
        · try dsimp only
          rw [lineN, if_neg (by omega)]; omega
    rintro k hk
    try dsimp only at *
    subst hk
    have hl1 := lineN_pos hqn
    have hl2 := lineN_le q
    refine t_seq ?_
    refine t_seq ?_
    refine t_region ?_
    refine l_q rfl rfl rfl (q_move rfl rfl) ?_
    refine l_q rfl rfl rfl (q_move rfl rfl) ?_
    refine l_q rfl rfl rfl (q_move rfl rfl) ?_
    refine l_q rfl rfl rfl (q_slice_str_to rfl Tryd.underlying9 rfl rfl (by omega)) ?_
    refine l_yield (i := nn) g (wanted_n rfl) rfl rfl rfl rfl rfl hY (lines_next hqn hdr |>.2.1) hcd rfl (fun g hcd hle => ?_) (fun g hcx hle => ?_)
    · skip
      have hJ := hJ.trans hle
      refine l_q rfl rfl rfl (q_not rfl rfl) ?_
      refine l_nil ?_
      refine n_then ?_
      refine t_cond rfl (fun hc2 => ?_) (fun hc2 => ?_)
      · skip
        try simp at hc2
      · skip
        try simp at hc2
        refine t_skip ?_
        refine n_then ?_
        refine t_region ?_
        refine l_q rfl rfl rfl (q_move rfl rfl) ?_
        refine l_q rfl rfl rfl (q_move rfl rfl) ?_
        refine l_q rfl rfl rfl (q_slice_str_from rfl Tryd.underlying9 rfl rfl (by omega)) ?_
        refine l_q rfl rfl rfl (q_assign rfl rfl) ?_
        refine l_nil ?_
        refine n_block ?_
        refine n_roundE ((q.drop (lineN q), nn + 1, g)) ?_ ?_ (sub_cons rfl sub_nil) (sub_cons rfl (sub_cons rfl sub_nil)) (fun _ h => by try dsimp only; exact subC_st h)
        · try dsimp only
          refine ⟨by have := (lines_next hqn hdr).1; rw [List.length_map] at this; exact this, hcd, hJ, (lines_next hqn hdr).2.2, ?_⟩
          rw [List.length_drop]; omega
        · try dsimp only
          show (q.drop (lineN q)).length < q.length
          rw [List.length_drop]; omega
    · skip
      have hJ := hJ.trans hle
      refine l_q rfl rfl rfl (q_not rfl rfl) ?_
      refine l_nil ?_
      refine n_then ?_
      refine t_cond rfl (fun hc3 => ?_) (fun hc3 => ?_)
      · skip
        try simp at hc3
        refine t_ret ?_
        refine n_ret_then ?_
        refine n_ret_block ?_
        refine n_ret_then ?_
        refine n_ret_block ?_
        refine n_ret0 rfl (fun w' hw => ?_)
        -- leaf 0
        exact ⟨_, rfl, g, .inr ⟨nn + 1, (lines_next hqn hdr).1, hcx⟩, hJ, hw0.rebase (subC_st hw)⟩
      · skip
        try simp at hc3
  · skip
    have hqn : q = [] := Decidable.not_not.1 (of_decide_eq_false hc0)
    rw [hqn, linesB_nil] at hdr
    refine t_exit ?_
    refine n_exit_then ?_
    refine n_exit_then ?_
    refine n_exit_block ?_
    refine n_end0 rfl (fun w' hw => ?_)
    -- leaf 1
    exact ⟨_, rfl, g, .inl (by rw [lines_end hdr hn]; exact hcd), hJ, hw0.rebase (subC_st hw)⟩
end Go.Tri
