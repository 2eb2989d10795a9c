/-
  A bracket.
-/
import Derived.Test.YtlhjbemcapnmjaaPA3
namespace Go.Tri
open Go.Proofs Go.RowKit
def BrR (p : List Ch) (c : UInt8) (I : Look) (r : Value) : Prop := ∃ f vr ok, r = .tuple #[.bool f, vr, .bool ok] ∧ ((ok = true ∧ ∃ b, bracketP p c = some (f, b) ∧ Sl I 2 vr (b.map chC)) ∨ (ok = false ∧ bracketP p c = none))
def OneR (p : List Ch) (c : UInt8) (I : Look) (r : Value) : Prop := ∃ vr, r = .tuple #[.bool (oneP p c).1, vr] ∧ Sl I 2 vr ((oneP p c).2.map chC)
theorem memVs_two : ∀ (n : Nat) (v : Value) (l : List (Mem × Nat)), ∀ vs ∈ memVs n v l, vs.length = [22, 23].length
  | _, _, [], _, h => by cases h
  | n, v, (m, k) :: r, vs, h => by
    rw [memVs] at h
    rcases List.mem_cons.1 h with rfl | h
    · rfl
    · exact memVs_two _ _ r vs h
theorem mem_round {xs : List (List Value)} {nn : Nat} {q : List Ch} {vq : Value} {fi : Bool} {vs : List Value} (hdr : xs.drop nn = memVs q.length vq (memsG q fi)) (hi : xs[nn]? = some vs) :
    q ≠ [] ∧ (!fi && startsP q [93]) = false ∧ vs = [.agg (memC (memP q).1).toArray, cutV 2 (memP q).2 q.length vq] ∧ xs.drop (nn + 1) = memVs (q.drop (memP q).2).length (cutV 2 (memP q).2 q.length vq) (memsG (q.drop (memP q).2) false) := by
  obtain ⟨hlt, hx⟩ := List.getElem?_eq_some_iff.1 hi
  have h1 := List.drop_eq_getElem_cons hlt
  rw [hx, hdr] at h1
  by_cases hq : q = []
  · subst hq; cases h1
  · by_cases hst : (!fi && startsP q [93]) = true
    · rw [memsG_eq hq, if_pos hst] at h1; cases h1
    · have hst : (!fi && startsP q [93]) = false := by simpa using hst
      rw [memVs_step hq fi hst] at h1
      injection h1 with h2 h3
      exact ⟨hq, hst, h2.symm, h3.symm⟩
theorem mem_end {q : List Ch} {vq : Value} {fi : Bool} (h : memVs q.length vq (memsG q fi) = []) : q = [] ∨ (fi = false ∧ startsP q [93] = true) := by
  by_cases hq : q = []
  · exact .inl hq
  · by_cases hst : (!fi && startsP q [93]) = true
    · right; cases fi <;> simp_all
    · have hst : (!fi && startsP q [93]) = false := by simpa using hst
      rw [memVs_step hq fi hst] at h; cases h
set_option maxRecDepth 10000 in
theorem bracket_X (v : Value) (p : List Ch) (c : UInt8) (I : Look) (w : World) (hI : Le I (look w)) (hp : p.length ≤ 4611686018427387904) (hp0 : p ≠ []) (hv : Sl I 2 v (p.map chC)) : PureX Try.prog 30 [v, u8 c] w (BrR p c I) := by
  have hpl := List.length_pos_iff.2 hp0
  have hd1 := hv.dropM (l := 1) rfl (by omega)
  refine enterMN Try.func30 rfl Try.ntmps30 rfl (St.start w (look w) (Le.refl _)) ?_
  refine t_seq ?_
  refine t_region ?_
  refine l_e rfl rfl rfl (e_box rfl rfl (by first | exact One.cells (by assumption) | exact One.cells hvi.one | exact One.cells hv2.one | rfl)) ?_
  rintro _ _ _ ⟨b3, rfl, rfl, rfl⟩
  refine l_e rfl rfl rfl (e_alloc rfl ti4 rfl) ?_
  rintro _ _ _ ⟨b4, rfl, rfl, rfl⟩
  refine l_q rfl rfl rfl (q_assign rfl rfl) ?_
  refine l_q rfl rfl rfl (q_assign rfl rfl) ?_
  refine l_nil ?_
  refine n_then ?_
  refine t_seq ?_
  refine t_region ?_
  refine l_q rfl rfl rfl (q_move rfl rfl) ?_
  refine l_q rfl rfl rfl ((by first | exact q_slice_from rfl Try.underlying22 ti29 rfl rfl (Sl.lenOf hv (List.length_map _)) (by omega) | exact q_slice_from rfl Try.underlying22 ti29 rfl rfl (Sl.lenOf hd1 (List.length_map _)) (by omega) | exact q_slice_from rfl Try.underlying22 ti29 rfl rfl (Sl.lenOf hvi (List.length_map _)) (by omega) | exact q_slice_from rfl Try.underlying22 ti29 rfl rfl (Sl.lenOf hvq (List.length_map _)) (by omega))) ?_
  refine l_q rfl rfl rfl (q_assign rfl rfl) ?_
  refine l_nil ?_
  refine n_then ?_
  refine t_seq ?_
  refine t_region ?_
  refine l_q rfl rfl rfl (q_move rfl rfl) ?_
  refine l_q rfl rfl rfl (quiet_call rfl rfl rfl Try.func22 (by kernel_rfl) rfl ((fun w hw => starts_pure _ (p.drop 1) [33] w (by rw [List.length_drop]; omega) (by decide) (hd1.mono (hI.trans (Le.of_st hw)))))) ?_
  refine l_q rfl rfl rfl (q_assign rfl rfl) ?_
  refine l_nil ?_
  refine n_then ?_
  refine t_cutE (ι := Value × List Ch) (fun zz => zz.2 = (if startsP (p.drop 1) [33] then p.drop 2 else p.drop 1) ∧ Sl I 2 zz.1 (zz.2.map chC) ∧ zz.2.length ≤ p.length) (fun zz => [(7, zz.1)]) [(0, _), (1, _), (3, _), (4, _), (5, _), (6, _), (8, _)] (fun zz => (look w)) (fun zz => [row b3 5 [u8 c], row b4 4 [.bool false]]) (sub_cons rfl (sub_cons rfl (sub_cons rfl (sub_cons rfl (sub_cons rfl (sub_cons rfl (sub_cons rfl sub_nil))))))) ?_ ?_
  · skip
    refine t_seq ?_
    refine t_region ?_
    refine l_q rfl rfl rfl (q_move rfl rfl) ?_
    refine l_nil ?_
    refine n_then ?_
    refine t_cond rfl (fun hc0 => ?_) (fun hc0 => ?_)
    · skip
      have h1l := startsP_len hc0
      replace h1l : 1 ≤ (p.drop 1).length := h1l
      refine t_region ?_
      refine l_q rfl rfl rfl (q_move rfl rfl) ?_
      refine l_q rfl rfl rfl ((by first | exact q_slice_from rfl Try.underlying22 ti29 rfl rfl (Sl.lenOf hv (List.length_map _)) (by omega) | exact q_slice_from rfl Try.underlying22 ti29 rfl rfl (Sl.lenOf hd1 (List.length_map _)) (by omega) | exact q_slice_from rfl Try.underlying22 ti29 rfl rfl (Sl.lenOf hvi (List.length_map _)) (by omega) | exact q_slice_from rfl Try.underlying22 ti29 rfl rfl (Sl.lenOf hvq (List.length_map _)) (by omega))) ?_
      refine l_q rfl rfl rfl (q_assign rfl rfl) ?_
      refine l_nil ?_
      refine n_cut ((cutV 2 1 (p.drop 1).length (cutV 2 1 p.length v), (p.drop 1).drop 1)) ?_ (sub_cons rfl sub_nil) (sub_cons rfl (sub_cons rfl (sub_cons rfl (sub_cons rfl (sub_cons rfl (sub_cons rfl (sub_cons rfl sub_nil))))))) (fun _ h => by try dsimp only; exact subC_st h)
      · try dsimp only
        refine ⟨by rw [if_pos hc0, List.drop_drop], hd1.dropM rfl h1l, by simp only [List.length_drop]; omega⟩
    · skip
      refine t_skip ?_
      refine n_cut ((cutV 2 1 p.length v, p.drop 1)) ?_ (sub_cons rfl sub_nil) (sub_cons rfl (sub_cons rfl (sub_cons rfl (sub_cons rfl (sub_cons rfl (sub_cons rfl (sub_cons rfl sub_nil))))))) (fun _ h => by try dsimp only; exact subC_st h)
      · try dsimp only
        refine ⟨by rw [hc0, if_neg (by simp)], hd1, by simp only [List.length_drop]; omega⟩
  rintro ⟨vi, inn⟩ ⟨hinn, hvi, hil⟩
  try dsimp only at *
  refine t_seq ?_
  refine t_region ?_
  refine l_q rfl rfl rfl (q_move rfl rfl) ?_
  refine l_e rfl rfl rfl (e_alloc rfl ti22 rfl) ?_
  rintro _ _ _ ⟨b9, rfl, rfl, rfl⟩
  refine l_e0 rfl rfl (e_storeS rfl ti22 rfl rfl (by first | exact ⟨rfl, rfl⟩ | assumption | exact hvi.one | exact hv2.one) rfl (by first | (simp only [List.set_cons_succ, List.set_cons_zero]; rfl) | rfl)) ?_
  rintro _ _ _ ⟨rfl, rfl⟩
  refine l_nil ?_
  refine n_then ?_
  refine t_seq ?_
  refine t_seq ?_
  refine t_region ?_
  refine l_q rfl rfl rfl (q_move rfl rfl) ?_
  refine l_e rfl rfl rfl (eff_call rfl rfl rfl Try.func34 (by kernel_rfl) rfl (fun w hw => members_calls vi _ _ _ w hvi.one hw)) ?_
  rintro _ J0 _ ⟨hJ0, rfl, b0, rfl, hb0⟩
  refine l_nil ?_
  refine n_then ?_
  refine t_block ?_
  refine t_range (γ := List Ch × Value × Bool × Bool) (members_iter inn vi b0 (by omega)) rfl rfl Try.func37 (by kernel_rfl) rfl (fun nn zz => brG zz.1 zz.2.2.1 c zz.2.2.2 = brG inn true c false ∧ (memVs inn.length vi (memsG inn true)).drop nn = memVs zz.1.length zz.2.1 (memsG zz.1 zz.2.2.1) ∧ Sl I 2 zz.2.1 (zz.1.map chC) ∧ (zz.2.2.1 = true → zz.1.length = inn.length) ∧ (zz.2.2.1 = false → zz.1.length < inn.length)) (fun _ _ => False) [] (fun zz TT => (row b4 4 [.bool zz.2.2.2] :: row b9 22 [zz.2.1] :: row b3 5 [u8 c] :: TT)) (fun _ _ => rfl) (fun zz => J0) [(7, _), (0, _), (1, _), (3, _), (4, _), (5, _), (6, _), (8, _), (9, _), (21, _)] (sub_cons rfl (sub_cons rfl (sub_cons rfl (sub_cons rfl (sub_cons rfl (sub_cons rfl (sub_cons rfl (sub_cons rfl (sub_cons rfl (sub_cons rfl sub_nil)))))))))) (inn, vi, true, false) ?_ ?_ ?_ ?_ rfl ?_ ?_ ?_ (fun _ _ _ h => h.elim)
  · exact ⟨rfl, rfl, hvi, fun _ => rfl, fun h => by cases h⟩
  · exact ⟨hb0, hvi.mono (hI.trans hJ0)⟩
  · exact Le.refl _
  · exact fun _ h => subC_st h
  · exact memVs_two _ _ _
  · intro bl ready busy done dfr nn vs gg w0r FF hi hinv hrs hbz
    obtain ⟨q, vq, fi, f⟩ := gg
    obtain ⟨hbr, hdr, hvq, hf1, hf2⟩ := hinv
    try dsimp only at *
    obtain ⟨hqn, hst, rfl, hdr2⟩ := mem_round hdr hi
    have hk1 := memP_len hqn
    have hk0 := memP_pos q
    have hv2 := hvq.dropM (l := (memP q).2) rfl hk1
    refine t_seq ?_
    refine t_region ?_
    refine l_e rfl rfl rfl (e_alloc rfl ti56 rfl) ?_
    rintro _ _ _ ⟨b10, rfl, rfl, rfl⟩
    refine l_e0 rfl rfl ((by first | exact e_store_all rfl ti56 rfl rfl rfl (by first | exact chC_ones _ | exact pcC_ones _ | exact memC_ones _ | simp [Value.oneCell', str, u8]) rfl | exact e_store_agg rfl ti56 rfl rfl rfl (by first | exact chC_ones _ | exact pcC_ones _ | exact memC_ones _ | simp [Value.oneCell', str, u8]) rfl)) ?_
    rintro _ _ _ ⟨rfl, rfl⟩
    refine l_nil ?_
    refine n_then ?_
    refine t_region ?_
    refine l_q rfl rfl rfl (q_assign rfl rfl) ?_
    refine l_nil ?_
    refine n_begin (by rfl) hrs ?_
    refine t_block ?_
    refine t_seq ?_
    refine t_region ?_
    refine l_quietHead 6 ?_
    refine s_q rfl rfl rfl (q_load_row rfl Try.underlying4 rfl rfl (by rfl)) ?_
    refine s_q rfl rfl rfl (q_move rfl rfl) ?_
    refine s_or2 3 1 25 29 28 _ _ rfl rfl rfl rfl rfl rfl (fun h29 => by
        try simp at h29
        refine s_g rfl rfl rfl rfl rfl rfl (q_load_rowA rfl Try.underlying56 ti56 rfl rfl rfl) ?_
        refine s_g rfl rfl rfl rfl rfl rfl (q_load_row rfl Try.underlying5 rfl rfl (by rfl)) ?_
        refine s_g rfl rfl rfl rfl rfl rfl (quiet_call rfl rfl rfl Try.func35 (by kernel_rfl) rfl ((fun w _ => holds_pure (memP q).1 c w))) ?_
        exact s_val rfl
      ) (wanted_n rfl) rfl rfl rfl ?_
    refine s_list ?_
    refine l_e0 rfl rfl (e_storeS rfl ti4 rfl rfl (by first | exact ⟨rfl, rfl⟩ | assumption | exact hvi.one | exact hv2.one) rfl (by first | (simp only [List.set_cons_succ, List.set_cons_zero]; rfl) | rfl)) ?_
    rintro _ _ _ ⟨rfl, rfl⟩
    refine l_nil ?_
    refine n_then ?_
    refine t_region ?_
    refine l_q rfl rfl rfl (q_move rfl rfl) ?_
    refine l_e0 rfl rfl (e_storeS rfl ti22 rfl rfl (by first | exact ⟨rfl, rfl⟩ | assumption | exact hvi.one | exact hv2.one) rfl (by first | (simp only [List.set_cons_succ, List.set_cons_zero]; rfl) | rfl)) ?_
    rintro _ _ _ ⟨rfl, rfl⟩
    refine l_nil ?_
    refine n_block ?_
    refine n_rnext (fun w' hw' => .inl ⟨rfl, ((q.drop (memP q).2, cutV 2 (memP q).2 q.length vq, false, (f || holdsM (memP q).1 c))), ?_, ?_, ?_⟩)
    · try dsimp only
      refine ⟨?_, hdr2, hv2, (fun h => by cases h), fun _ => ?_⟩
      · rw [← hbr, brG_eq hqn fi c f, hst, if_neg (by simp)]
      · have hh : q.length ≤ inn.length := by
          cases fi
          · exact Nat.le_of_lt (hf2 rfl)
          · exact Nat.le_of_eq (hf1 rfl)
        rw [List.length_drop]; omega
    · exact Le.refl _
    · try dsimp only
      exact subC_st hw'
  intro bd gg hinv hle
  obtain ⟨q, vq, fi, f⟩ := gg
  obtain ⟨hbr, hdr, hvq, hf1, hf2⟩ := hinv
  try dsimp only at *
  rw [List.drop_length] at hdr
  have hend := mem_end hdr.symm
  have hql : q.length ≤ inn.length := by
    cases fi
    · exact Nat.le_of_lt (hf2 rfl)
    · exact Nat.le_of_eq (hf1 rfl)
  refine n_block ?_
  refine n_then ?_
  refine t_seq ?_
  refine t_seq ?_
  refine t_qreg ?_
  refine s_q rfl rfl rfl (q_load_row rfl Try.underlying22 rfl rfl (by rfl)) ?_
  refine s_q rfl rfl rfl (quiet_call rfl rfl rfl Try.func22 (by kernel_rfl) rfl ((fun w hw => starts_pure _ q [93] w (by omega) (by decide) (hvq.mono ((hI.trans hJ0).trans (Le.of_st hw)))))) ?_
  refine s_q rfl rfl rfl (q_not rfl rfl) ?_
  refine s_q rfl rfl rfl (q_move rfl rfl) ?_
  refine s_or2 5 3 34 40 39 _ _ rfl rfl rfl rfl rfl rfl (fun h40 => by
      try simp at h40
      refine s_g rfl rfl rfl rfl rfl rfl (q_load_row rfl Try.underlying22 rfl rfl (by rfl)) ?_
      refine s_g rfl rfl rfl rfl rfl rfl ((by first | exact q_lenV rfl Try.underlying22 rfl | exact q_len rfl Try.underlying22 rfl (Sl.lenOf hv (List.length_map _)) | exact q_len rfl Try.underlying22 rfl (Sl.lenOf hd1 (List.length_map _)) | exact q_len rfl Try.underlying22 rfl (Sl.lenOf hvi (List.length_map _)) | exact q_len rfl Try.underlying22 rfl (Sl.lenOf hvq (List.length_map _)))) ?_
      refine s_g rfl rfl rfl rfl rfl rfl (q_move rfl rfl) ?_
      refine s_g rfl rfl rfl rfl rfl rfl ((by first | exact q_lenV rfl Try.underlying22 rfl | exact q_len rfl Try.underlying22 rfl (Sl.lenOf hv (List.length_map _)) | exact q_len rfl Try.underlying22 rfl (Sl.lenOf hd1 (List.length_map _)) | exact q_len rfl Try.underlying22 rfl (Sl.lenOf hvi (List.length_map _)) | exact q_len rfl Try.underlying22 rfl (Sl.lenOf hvq (List.length_map _)))) ?_
      refine s_g rfl rfl rfl rfl rfl rfl (q_eql rfl rfl rfl) ?_
      exact s_val rfl
    ) (wanted_n rfl) rfl rfl rfl ?_
  refine s_done ?_
  refine n_then ?_
  refine t_cond rfl (fun hc1 => ?_) (fun hc1 => ?_)
  · skip
    refine t_seq ?_
    refine t_region ?_
    refine l_e0 rfl rfl (e_storeS rfl ti4 rfl rfl (by first | exact ⟨rfl, rfl⟩ | assumption | exact hvi.one | exact hv2.one) rfl (by first | (simp only [List.set_cons_succ, List.set_cons_zero]; rfl) | rfl)) ?_
    rintro _ _ _ ⟨rfl, rfl⟩
    refine l_q rfl rfl rfl (q_assign rfl rfl) ?_
    refine l_q rfl rfl rfl (q_assign rfl rfl) ?_
    refine l_nil ?_
    refine n_then ?_
    refine t_ret ?_
    refine n_ret_then ?_
    refine n_np_ret ?_
    refine n_retGM (bs := [bd]) (.inl rfl) rfl (by exact res_cell rfl Try.underlying4 rfl (by first | exact rd_rowI rfl) (res_tmp rfl (res_tmp rfl (res_nil)))) (fun w' hw => ?_)
    -- leaf 0
    have hle := hI.trans hJ0
    refine ⟨_, rfl, ⟨false, _, false, rfl, .inr ⟨rfl, ?_⟩⟩, (hw.less hJ0).below⟩
    have h1 : (!startsP q [93] || decide ((q.length : Int) = (inn.length : Int))) = true := hc1
    have hq0 : q = [] := by
      rcases hend with h | ⟨h2, h3⟩
      · exact h
      · have := hf2 h2
        simp only [h3, Bool.not_true, Bool.false_or, decide_eq_true_eq] at h1
        omega
    unfold bracketP
    dsimp only
    rw [← hinn, ← hbr, hq0]
    rfl
  · skip
    refine t_skip ?_
    refine n_then ?_
    refine t_seq ?_
    have hq1 : 1 ≤ q.length := by
      have h1 : (!startsP q [93] || decide ((q.length : Int) = (inn.length : Int))) = false := hc1
      simp only [Bool.or_eq_false_iff, Bool.not_eq_false', decide_eq_false_iff_not] at h1
      exact startsP_len h1.1
    refine t_draw [5] [] [row b9 22 [vq]] mo (by kernel_rfl) (fun _ _ _ _ _ h => h) ?_
    refine r_q1 0 (by kernel_rfl) rfl (Le.refl _) rfl rfl rfl (q_load_row rfl Try.underlying4 rfl rfl (by rfl)) ?_
    refine r_q1 1 (by kernel_rfl) rfl (Le.refl _) rfl rfl rfl (q_move rfl rfl) ?_
    refine r_q1 2 (by kernel_rfl) rfl (Le.refl _) rfl rfl rfl (q_neq_bool rfl Try.underlying4 rfl rfl) ?_
    refine r_q0 3 (by kernel_rfl) rfl (Le.refl _) rfl rfl rfl (fun _ hI => q_load_row rfl Try.underlying22 rfl rfl (by rfl)) ?_
    refine r_q0 4 (by kernel_rfl) rfl (Le.refl _) rfl rfl rfl (fun _ hI => (by first | exact q_slice_from rfl Try.underlying22 ti29 rfl rfl (Sl.lenOf hv (List.length_map _)) (by omega) | exact q_slice_from rfl Try.underlying22 ti29 rfl rfl (Sl.lenOf hd1 (List.length_map _)) (by omega) | exact q_slice_from rfl Try.underlying22 ti29 rfl rfl (Sl.lenOf hvi (List.length_map _)) (by omega) | exact q_slice_from rfl Try.underlying22 ti29 rfl rfl (Sl.lenOf hvq (List.length_map _)) (by omega))) ?_
    refine r_e0 5 (by kernel_rfl) (by kernel_rfl) rfl (Le.refl _) rfl rfl (e_storeS rfl ti4 rfl rfl (by first | exact ⟨rfl, rfl⟩ | assumption | exact hvi.one | exact hv2.one) rfl (by first | (simp only [List.set_cons_succ, List.set_cons_zero]; rfl) | rfl)) ?_
    rintro _ _ _ ⟨rfl, rfl⟩
    refine ⟨Le.refl _, .inr SubC.sub, ?_⟩
    refine r_q0 6 (by kernel_rfl) rfl (Le.refl _) rfl rfl rfl (fun _ hI => q_assign rfl rfl) ?_
    refine r_q0 7 (by kernel_rfl) rfl (Le.refl _) rfl rfl rfl (fun _ hI => q_assign rfl rfl) ?_
    refine r_end (by kernel_rfl) ?_
    refine n_then ?_
    refine t_ret ?_
    refine n_np_ret ?_
    refine n_retGM (bs := [bd]) (.inl rfl) rfl (by exact res_cell rfl Try.underlying4 rfl (by first | exact rd_rowI rfl) (res_tmp rfl (res_tmp rfl (res_nil)))) (fun w' hw => ?_)
    -- leaf 1
    have h1 : (!startsP q [93] || decide ((q.length : Int) = (inn.length : Int))) = false := hc1
    simp only [Bool.or_eq_false_iff, Bool.not_eq_false', decide_eq_false_iff_not] at h1
    have hqn : q ≠ [] := by rintro rfl; exact absurd h1.1 (by decide)
    have hfi : fi = false := by
      cases fi with
      | false => rfl
      | true => exact absurd (by rw [hf1 rfl]) h1.2
    refine ⟨_, rfl, ⟨_, _, true, rfl, .inl ⟨rfl, q.drop 1, ?_, hvq.dropM rfl hq1⟩⟩, (hw.less hJ0).below⟩
    unfold bracketP
    dsimp only
    rw [← hinn, ← hbr, brG_eq hqn, hfi, h1.1]
    rfl
end Go.Tri
