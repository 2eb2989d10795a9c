/-
  A scanner: words and operators.
-/
import Derived.Test.YtfnmioggkmkmcaaDoorLA3
import Derived.Test.YtfnmioggkmkmcaaDoorLSh
import Derived.Test.YtfnmioggkmkmcaaDoorPLex5
import Derived.Test.YtfnmioggkmkmcaaDoorTriB11
import Derived.Shelf.Strings.SlTrimAscii
namespace Go.Tri
open Go.Proofs Go.RowKit
/-- what the package variables hold -/
def EnvI (I : Look) : Prop := ∃ m, CellI I 0 0 (.int .i64 m)
theorem EnvI.mono {I J : Look} (h : EnvI I) (k : Le I J) : EnvI J := let ⟨m, hm⟩ := h; ⟨m, hm.mono k⟩
theorem EnvI.cell {w : World} (h : EnvI (look w)) : ∃ m, w.cell? ⟨0, 0, none⟩ = some (.int .i64 m) := by
  obtain ⟨m, cur, U, fr, h1, h2⟩ := h
  refine ⟨m, ?_⟩
  unfold World.cell?
  have h1' : w.heap[0]? = some (.cells cur U fr) := h1
  simp [h1', h2]
theorem contains_pure (s sub : List UInt8) (w : World) (hs : s.length ≤ 1000000000) (hG : EnvI (look w)) : Pure Tryd.prog 51 [str s, str sub] w (.bool (Lib.contains s sub)) := by
  obtain ⟨m, hm⟩ := hG.cell
  have hsz := size_str s
  refine (Tryd.strings_Contains ⟨s.toArray⟩ ⟨sub.toArray⟩ m w (by omega) hm).mono fun e w' ⟨h1, h2⟩ => ?_
  subst h2
  exact ⟨h1, Below.refl _ _⟩
theorem contains1_pure (s : List UInt8) (c : UInt8) (w : World) : Pure Tryd.prog 51 [str s, str [c]] w (.bool (hasB s c)) := by
  refine (Tryd.strings_Contains_one ⟨s.toArray⟩ c w).mono fun e w' ⟨h1, h2⟩ => ?_
  subst h2
  refine ⟨?_, Below.refl _ _⟩
  rw [h1, ← indexByte_has]
theorem trim_pure (s cs : List UInt8) (w : World) (hs : s.length ≤ 9223372036854775807) (hc : cs.length ≤ 1000) (ha : cs.all (fun b => decide (b.toNat < 128)) = true) : Pure Tryd.prog 53 [str s, str cs] w (str (Lib.trimS s cs)) := by
  have h1 := size_str s
  have h2 := size_str cs
  exact (Any.strings_Trim_laid Tryd.lays160 (by kernel_rfl) ⟨s.toArray⟩ ⟨cs.toArray⟩ w (by omega) (by omega) (ascii_of_all (l := cs) ha)).mono fun e w' ⟨h3, h4⟩ => ⟨h3, h4⟩
def tokC (t : Tok) : List Value := [.int .i64 (t.kind : Int), str t.text, .int .i64 (t.pos : Int), str t.doc, .bool t.raw]
theorem tokC_ones (t : Tok) : ∀ u ∈ tokC t, u.oneCell' = true := fun u hu => by
  simp only [tokC, List.mem_cons, List.not_mem_nil, or_false] at hu
  rcases hu with rfl | rfl | rfl | rfl | rfl <;> rfl
/-- what the scan for a token left behind -/
def TRel (i : Nat) (r : TR) (t : Tok) (ok : Bool) (i' a' e' : Nat) : Prop := match r with
  | .stop k => t = tok0 ∧ ok = false ∧ i' = i + k ∧ a' = 0 ∧ e' = 0
  | .tok off k kind text => t = ⟨kind, text, i + off, [], false⟩ ∧ ok = true ∧ i' = i + k ∧ a' = 0 ∧ e' = 0
  | .bad a e => t = tok0 ∧ ok = false ∧ a' = i + a ∧ e' = e
def TokC (f : FuncId) (T : TypeId) (b : Nat) (s : List UInt8) (i : Nat) (args : List Value) (r : TR) (I : Look) (F : List HA) (w : World) : Prop :=
  Calls Tryd.prog f (.pointer (some ⟨b, 0, none⟩) :: args).toArray w (fun e w' => ∃ v, e = .returned v ∧ ∃ I' H', (I = I' ∧ ∃ t ok i' a' e', v = .tuple #[.agg (tokC t).toArray, .bool ok] ∧ TRel i r t ok i' a' e' ∧ i' ≤ s.length ∧ H' = row b T (scC s i' a' e') :: F) ∧ St w I' H' w')
theorem special_has (c : UInt8) : decide (Lib.indexByte specials c < 0) = !hasB specials c := by
  rw [← indexByte_has]
  by_cases h : 0 ≤ Lib.indexByte specials c
  · rw [decide_eq_true h, decide_eq_false (by omega)]; rfl
  · rw [decide_eq_false h, decide_eq_true (by omega)]; rfl
theorem opAt_eq (l : List UInt8) (n : Nat) : (decide (((l.take n).length : Int) = (n : Int)) && Lib.contains opsS ([32] ++ l.take n ++ [32]) && !hasB (l.take n) 32) = opAt l n := by
  unfold opAt isOp
  rw [Bool.and_assoc]
  congr 1
  exact decide_eq_decide.2 (by omega)
theorem slice_n (s : List UInt8) (i n : Nat) : (s.drop ((i : Int)).toNat).take ((min ((i : Int) + (n : Int)) (s.length : Int)).toNat - ((i : Int)).toNat) = (s.drop i).take n := by
  rw [show ((i : Int)).toNat = i by omega]
  by_cases h : i + n ≤ s.length
  · congr 1; omega
  · rw [List.take_of_length_le (by rw [List.length_drop]; omega), List.take_of_length_le (by rw [List.length_drop]; omega)]
theorem slice_to (s : List UInt8) (i k : Nat) : (s.drop ((i : Int)).toNat).take ((((i + k : Nat)) : Int).toNat - ((i : Int)).toNat) = (s.drop i).take k := by
  rw [show ((i : Int)).toNat = i by omega]
  congr 1; omega
set_option maxRecDepth 10000 in
theorem word_calls (b : Nat) (s : List UInt8) (i : Nat) (I : Look) (F : List HA) (w0 w : World) (hs : s.length ≤ 2305843009213693952) (hi : i ≤ s.length) (hw0 : St w0 I (row b 51 (scC s i 0 0) :: F) w) : ScanC 52 51 b s i [] (wordP (s.drop i)) I F w := by
  refine enter Tryd.func52 rfl Tryd.ntmps52 rfl (hw0.self) ?_
  refine t_seq ?_
  refine t_region ?_
  refine l_q rfl rfl rfl (q_assign rfl rfl) ?_
  refine l_nil ?_
  refine n_then ?_
  refine t_seq ?_
  refine t_block ?_
  refine t_loopE (ι := Nat × Nat) (fun zz => i ≤ zz.1 ∧ zz.1 ≤ s.length ∧ wordP (s.drop i) = (wordL zz.2 (s.drop zz.1)).on (zz.1 - i) ∧ (s.drop zz.1).length ≤ zz.2) (fun zz => s.length - zz.1) (fun zz => []) [(0, _)] (fun zz => I) (fun zz => (row b 51 (scC s zz.1 0 0) :: F)) (i, (s.drop i).length) ?_ (sub_nil) (sub_cons rfl sub_nil) (fun _ h => subC_st h) ?_
  · try dsimp only
    refine ⟨Nat.le_refl _, hi, by rw [Nat.sub_self, SR.on_zero]; rfl, Nat.le_refl _⟩
  rintro ⟨j, g⟩ ⟨hj1, hj2, hx, hfl⟩
  try dsimp only at *
  refine t_seq ?_
  refine t_seq ?_
  refine t_qdraw mo (by kernel_rfl) (fun _ _ _ _ _ h => h) ?_
  refine s_q rfl rfl rfl (q_move rfl rfl) ?_
  refine s_q rfl rfl rfl (q_nilCheck rfl rfl) ?_
  refine s_q rfl rfl rfl (q_fieldAddr rfl Tryd.underlying51 rfl rfl ti3 rfl rfl) ?_
  refine s_q rfl rfl rfl (q_load_row rfl Tryd.underlying3 rfl rfl (by rfl)) ?_
  refine s_q rfl rfl rfl (q_move rfl rfl) ?_
  refine s_q rfl rfl rfl (q_nilCheck rfl rfl) ?_
  refine s_q rfl rfl rfl (q_fieldAddr rfl Tryd.underlying51 rfl rfl ti9 rfl rfl) ?_
  refine s_q rfl rfl rfl (q_load_row rfl Tryd.underlying9 rfl rfl (by rfl)) ?_
  refine s_q rfl rfl rfl (q_len_str rfl Tryd.underlying9 rfl) ?_
  refine s_q rfl rfl rfl (q_lss rfl rfl rfl) ?_
  refine s_q rfl rfl rfl (q_move rfl rfl) ?_
  refine s_and2 11 10 14 26 25 _ _ rfl rfl rfl rfl rfl rfl (fun h26 => by
      try simp at h26
      refine s_g rfl rfl rfl rfl rfl rfl (q_move rfl rfl) ?_
      refine s_g rfl rfl rfl rfl rfl rfl (q_nilCheck rfl rfl) ?_
      refine s_g rfl rfl rfl rfl rfl rfl (q_fieldAddr rfl Tryd.underlying51 rfl rfl ti9 rfl rfl) ?_
      refine s_g rfl rfl rfl rfl rfl rfl (q_load_row rfl Tryd.underlying9 rfl rfl (by rfl)) ?_
      refine s_g rfl rfl rfl rfl rfl rfl (q_move rfl rfl) ?_
      refine s_g rfl rfl rfl rfl rfl rfl (q_nilCheck rfl rfl) ?_
      refine s_g rfl rfl rfl rfl rfl rfl (q_fieldAddr rfl Tryd.underlying51 rfl rfl ti3 rfl rfl) ?_
      refine s_g rfl rfl rfl rfl rfl rfl (q_load_row rfl Tryd.underlying3 rfl rfl (by rfl)) ?_
      refine s_g rfl rfl rfl rfl rfl rfl ((by first | exact q_index_strN rfl Tryd.underlying9 rfl rfl (by omega) | exact q_index_str rfl Tryd.underlying9 rfl rfl (by omega))) ?_
      refine s_g rfl rfl rfl rfl rfl rfl (quiet_call rfl rfl rfl Tryd.func21 (by kernel_rfl) rfl ((fun w _ => indexByte_pure specials (nth s j 0) w))) ?_
      refine s_g rfl rfl rfl rfl rfl rfl (q_lss rfl rfl rfl) ?_
      exact s_val rfl
    ) (wanted_n rfl) rfl rfl rfl ?_
  refine s_done ?_
  refine n_then ?_
  refine t_cond rfl (fun hc0 => ?_) (fun hc0 => ?_)
  · skip
    have h0 : (decide ((j : Int) < (s.length : Int)) && decide (Lib.indexByte specials (nth s j 0) < 0)) = true := hc0
    rw [special_has, Bool.and_eq_true, decide_eq_true_eq, Bool.not_eq_true'] at h0
    have hj : j < s.length := by omega
    have hno := (word_step hx (drop_ne hj) hfl).2 (by rw [nth_drop_head]; exact h0.2)
    have hfit := wordStep_fit (drop_ne hj)
    refine t_skip ?_
    refine n_then ?_
    refine t_block ?_
    refine t_seq ?_
    refine t_region ?_
    refine l_q rfl rfl rfl (q_assign rfl rfl) ?_
    refine l_nil ?_
    refine n_then ?_
    refine t_cutE (ι := Bool × Nat × Nat × Nat) (fun zz => SRel j (wordStep (s.drop j)) zz.1 zz.2.1 zz.2.2.1 zz.2.2.2 ∧ zz.2.1 ≤ s.length) (fun zz => [(3, .bool zz.1)]) [(0, _), (26, _)] (fun zz => I) (fun zz => (row b 51 (scC s zz.2.1 zz.2.2.1 zz.2.2.2) :: F)) (sub_cons rfl (sub_cons rfl sub_nil)) ?_ ?_
    · skip
      refine t_seq ?_
      refine t_region ?_
      refine l_q rfl rfl rfl (q_move rfl rfl) ?_
      refine l_q rfl rfl rfl (quiet_call rfl rfl rfl Tryd.func23 (by kernel_rfl) rfl ((fun w hw => starts_pure b s [34] j 0 0 w (by omega) (rowed_of hw)))) ?_
      refine l_nil ?_
      refine n_then ?_
      refine t_cond rfl (fun hc1 => ?_) (fun hc1 => ?_)
      · skip
        refine t_region ?_
        refine l_q rfl rfl rfl (q_move rfl rfl) ?_
        refine l_e rfl rfl rfl (eff_call rfl rfl rfl Tryd.func25 (by kernel_rfl) rfl (fun w hw => (both_ok 24).1 b s j 1 _ _ _ w (by decide) (by decide) hs hj (picks_st1 (row b 51 (scC s j 0 0)) hw))) ?_
        rintro _ _ _ ⟨rfl, ok30, i30, a30, e30, rfl, hr30, hi30, rfl⟩
        refine l_q rfl rfl rfl (q_assign rfl rfl) ?_
        refine l_nil ?_
        refine n_cut ((ok30, i30, a30, e30)) ?_ (sub_cons rfl sub_nil) (sub_cons rfl (sub_cons rfl sub_nil)) (fun _ h => by try dsimp only; exact subC_st h)
        · try dsimp only
          exact ⟨by rw [wordStep, if_pos hc1]; exact hr30, hi30⟩
      · skip
        refine t_region ?_
        refine l_q rfl rfl rfl (q_move rfl rfl) ?_
        refine l_e rfl rfl rfl (eff_call rfl rfl rfl Tryd.func46 (by kernel_rfl) rfl (fun w hw => inside_calls 24 (both_ok 24).2 b s j 0 false true _ _ _ w (by decide) (by decide) hs hj (picks_st1 (row b 51 (scC s j 0 0)) hw))) ?_
        rintro _ _ _ ⟨rfl, ok32, i32, a32, e32, rfl, hr32, hi32, rfl⟩
        refine l_q rfl rfl rfl (q_assign rfl rfl) ?_
        refine l_nil ?_
        refine n_cut ((ok32, i32, a32, e32)) ?_ (sub_cons rfl sub_nil) (sub_cons rfl (sub_cons rfl sub_nil)) (fun _ h => by try dsimp only; exact subC_st h)
        · try dsimp only
          exact ⟨by rw [wordStep, if_neg (by rw [hc1]; simp)]; exact hr32, hi32⟩
    rintro ⟨ok3, i3, a3, e3⟩ ⟨hr3, hi3⟩
    try dsimp only at *
    refine t_seq ?_
    refine t_region ?_
    refine l_q rfl rfl rfl (q_move rfl rfl) ?_
    refine l_q rfl rfl rfl (q_not rfl rfl) ?_
    refine l_nil ?_
    refine n_then ?_
    refine t_cond rfl (fun hc2 => ?_) (fun hc2 => ?_)
    · skip
      have hk : ok3 = false := by simpa using hc2
      obtain ⟨a, h1, h2⟩ := hr3.f hk
      have h3 := hno.1 a e3 h1
      refine t_seq ?_
      refine t_region ?_
      refine l_q rfl rfl rfl (q_assign rfl rfl) ?_
      refine l_nil ?_
      refine n_then ?_
      refine t_ret ?_
      refine n_ret_block ?_
      refine n_ret_then ?_
      refine n_ret_block ?_
      refine n_ret_then ?_
      refine n_ret1 rfl rfl (fun w' hw => ?_)
      -- leaf 0
      exact ⟨_, rfl, I, _, ⟨rfl, false, i3, a3, e3, rfl, (by rw [h3]; exact ⟨rfl, (by omega), rfl⟩), hi3, rfl⟩, hw⟩
    · skip
      have hk : ok3 = true := by simpa using hc2
      obtain ⟨k, h1, rfl, rfl, rfl⟩ := hr3.t hk
      have h3 := hno.2 k h1
      rw [h1] at hfit
      rw [List.drop_drop] at h3
      refine t_skip ?_
      refine n_block ?_
      refine n_roundE ((j + k, g - 1)) ?_ ?_ (sub_nil) (sub_cons rfl sub_nil) (fun _ h => by try dsimp only; exact subC_st h)
      · try dsimp only
        have h4 : 1 ≤ k := hfit.1
        refine ⟨by omega, hi3, by rw [h3]; congr 1; omega, ?_⟩
        rw [List.length_drop] at hfl ⊢
        omega
      · try dsimp only
        have h4 : 1 ≤ k := hfit.1
        show s.length - (j + k) < s.length - j
        omega
  · skip
    have h0 : (decide ((j : Int) < (s.length : Int)) && decide (Lib.indexByte specials (nth s j 0) < 0)) = false := hc0
    rw [special_has] at h0
    have hend : wordP (s.drop i) = .ok (j - i) := by
      by_cases hj : j < s.length
      · rw [decide_eq_true (by omega), Bool.true_and] at h0
        exact (word_step hx (drop_ne hj) hfl).1 (by rw [nth_drop_head]; simpa using h0)
      · rw [hx, List.drop_of_length_le (by omega), wordL_end]; rfl
    refine t_exit ?_
    refine n_exit_then ?_
    refine n_exit_then ?_
    refine n_exit_block ?_
    refine n_then ?_
    refine t_seq ?_
    refine t_region ?_
    refine l_q rfl rfl rfl (q_assign rfl rfl) ?_
    refine l_nil ?_
    refine n_then ?_
    refine t_ret ?_
    refine n_ret1 rfl rfl (fun w' hw => ?_)
    -- leaf 1
    exact ⟨_, rfl, I, _, ⟨rfl, true, j, 0, 0, rfl, (by rw [hend]; exact ⟨rfl, (by omega), rfl, rfl⟩), (by omega), rfl⟩, hw⟩
set_option maxRecDepth 10000 in
theorem operator_pure (b : Nat) (s : List UInt8) (i : Nat) (w : World) (hs : s.length ≤ 2305843009213693952) (hi : i ≤ s.length) (hb : Rowed w b (scC s i 0 0)) (hG : EnvI (look w)) : Pure Tryd.prog 36 [.pointer (some ⟨b, 0, none⟩)] w (str (opP (s.drop i))) := by
  refine enter Tryd.func36 rfl Tryd.ntmps36 rfl (St.start w (look w) (Le.refl _)) ?_
  refine t_seq ?_
  refine t_region ?_
  refine l_q rfl rfl rfl (q_assign rfl rfl) ?_
  refine l_nil ?_
  refine n_then ?_
  refine t_seq ?_
  refine t_seq ?_
  refine t_region ?_
  refine l_q rfl rfl rfl (q_assign rfl rfl) ?_
  refine l_nil ?_
  refine n_then ?_
  refine t_block ?_
  refine t_loopE (ι := Nat) (fun zz => zz ≤ 3 ∧ opP (s.drop i) = opN zz (s.drop i)) (fun zz => zz) (fun zz => [(3, .int .i64 (zz : Int))]) [(0, _)] (fun zz => look w) (fun zz => []) 3 ?_ (sub_cons rfl sub_nil) (sub_cons rfl sub_nil) (fun _ h => subC_st h) ?_
  · try dsimp only
    exact ⟨Nat.le_refl _, rfl⟩
  rintro n ⟨hn, hx⟩
  try dsimp only at *
  refine t_seq ?_
  refine t_seq ?_
  refine t_region ?_
  refine l_q rfl rfl rfl (q_move rfl rfl) ?_
  refine l_q rfl rfl rfl (q_gtr rfl rfl rfl) ?_
  refine l_nil ?_
  refine n_then ?_
  refine t_cond rfl (fun hc0 => ?_) (fun hc0 => ?_)
  · skip
    try simp at hc0
    refine t_skip ?_
    refine n_then ?_
    refine t_seq ?_
    refine t_block ?_
    refine t_seq ?_
    refine t_qdraw mo (by kernel_rfl) (fun _ _ _ _ _ h => h) ?_
    refine s_q rfl rfl rfl (q_move rfl rfl) ?_
    refine s_q rfl rfl rfl (q_nilCheck rfl rfl) ?_
    refine s_q rfl rfl rfl (q_fieldAddr rfl Tryd.underlying51 rfl rfl ti9 rfl rfl) ?_
    refine s_q rfl rfl rfl ((by first | exact q_load_row rfl Tryd.underlying9 rfl rfl (by rfl) | exact q_load rfl Tryd.underlying9 rfl rfl (rd_imm (hb 0 _ rfl)) | exact q_load rfl Tryd.underlying9 rfl rfl (rd_imm (hb 1 _ rfl)))) ?_
    refine s_q rfl rfl rfl (q_move rfl rfl) ?_
    refine s_q rfl rfl rfl (q_nilCheck rfl rfl) ?_
    refine s_q rfl rfl rfl (q_fieldAddr rfl Tryd.underlying51 rfl rfl ti3 rfl rfl) ?_
    refine s_q rfl rfl rfl ((by first | exact q_load_row rfl Tryd.underlying3 rfl rfl (by rfl) | exact q_load rfl Tryd.underlying3 rfl rfl (rd_imm (hb 0 _ rfl)) | exact q_load rfl Tryd.underlying3 rfl rfl (rd_imm (hb 1 _ rfl)))) ?_
    refine s_q rfl rfl rfl (q_move rfl rfl) ?_
    refine s_q rfl rfl rfl (q_nilCheck rfl rfl) ?_
    refine s_q rfl rfl rfl (q_fieldAddr rfl Tryd.underlying51 rfl rfl ti3 rfl rfl) ?_
    refine s_q rfl rfl rfl ((by first | exact q_load_row rfl Tryd.underlying3 rfl rfl (by rfl) | exact q_load rfl Tryd.underlying3 rfl rfl (rd_imm (hb 0 _ rfl)) | exact q_load rfl Tryd.underlying3 rfl rfl (rd_imm (hb 1 _ rfl)))) ?_
    refine s_q rfl rfl rfl (q_move rfl rfl) ?_
    refine s_q rfl rfl rfl (q_add64 rfl rfl rfl (by omega)) ?_
    refine s_q rfl rfl rfl (q_move rfl rfl) ?_
    refine s_q rfl rfl rfl (q_nilCheck rfl rfl) ?_
    refine s_q rfl rfl rfl (q_fieldAddr rfl Tryd.underlying51 rfl rfl ti9 rfl rfl) ?_
    refine s_q rfl rfl rfl ((by first | exact q_load_row rfl Tryd.underlying9 rfl rfl (by rfl) | exact q_load rfl Tryd.underlying9 rfl rfl (rd_imm (hb 0 _ rfl)) | exact q_load rfl Tryd.underlying9 rfl rfl (rd_imm (hb 1 _ rfl)))) ?_
    refine s_q rfl rfl rfl (q_len_str rfl Tryd.underlying9 rfl) ?_
    refine s_q rfl rfl rfl (q_min rfl rfl rfl) ?_
    refine s_q rfl rfl rfl (q_slice_str rfl Tryd.underlying9 rfl rfl rfl (by omega)) ?_
    rw [slice_n s i n]
    refine s_q rfl rfl rfl (q_assign rfl rfl) ?_
    refine s_done ?_
    refine n_then ?_
    refine t_seq ?_
    have htl : ((s.drop i).take n).length ≤ 3 := by rw [List.length_take]; omega
    refine t_qreg ?_
    refine s_q rfl rfl rfl (q_move rfl rfl) ?_
    refine s_q rfl rfl rfl (q_len_str rfl Tryd.underlying9 rfl) ?_
    refine s_q rfl rfl rfl (q_move rfl rfl) ?_
    refine s_q rfl rfl rfl (q_eql rfl rfl rfl) ?_
    refine s_q rfl rfl rfl (q_move rfl rfl) ?_
    refine s_and2 4 4 34 39 38 _ _ rfl rfl rfl rfl rfl rfl (fun h39 => by
        try simp at h39
        refine s_g rfl rfl rfl rfl rfl rfl (q_move rfl rfl) ?_
        refine s_g rfl rfl rfl rfl rfl rfl (q_cat rfl rfl rfl (by first | omega | (simp only [List.length_append, List.length_cons, List.length_nil, List.length_take, List.length_drop]; omega))) ?_
        refine s_g rfl rfl rfl rfl rfl rfl (q_cat rfl rfl rfl (by first | omega | (simp only [List.length_append, List.length_cons, List.length_nil, List.length_take, List.length_drop]; omega))) ?_
        refine s_g rfl rfl rfl rfl rfl rfl (quiet_call rfl rfl rfl Tryd.func51 (by kernel_rfl) rfl ((fun w hw => contains_pure opsS ([32] ++ (s.drop i).take n ++ [32]) w (by decide) (hG.mono hw.le)))) ?_
        exact s_val rfl
      ) (wanted_n rfl) rfl rfl rfl ?_
    refine s_q rfl rfl rfl (q_move rfl rfl) ?_
    refine s_and2 3 10 40 44 43 _ _ rfl rfl rfl rfl rfl rfl (fun h44 => by
        try simp at h44
        refine s_g rfl rfl rfl rfl rfl rfl (q_move rfl rfl) ?_
        refine s_g rfl rfl rfl rfl rfl rfl (quiet_call rfl rfl rfl Tryd.func51 (by kernel_rfl) rfl ((fun w _ => contains1_pure ((s.drop i).take n) 32 w))) ?_
        refine s_g rfl rfl rfl rfl rfl rfl (q_not rfl rfl) ?_
        exact s_val rfl
      ) (wanted_n rfl) rfl rfl rfl ?_
    refine s_done ?_
    refine n_then ?_
    refine t_cond rfl (fun hc1 => ?_) (fun hc1 => ?_)
    · skip
      have h1 : opAt (s.drop i) n = true := by rw [← opAt_eq]; exact hc1
      refine t_seq ?_
      refine t_region ?_
      refine l_q rfl rfl rfl (q_move rfl rfl) ?_
      refine l_q rfl rfl rfl (q_assign rfl rfl) ?_
      refine l_nil ?_
      refine n_then ?_
      refine t_ret ?_
      refine n_ret_block ?_
      refine n_ret_then ?_
      refine n_ret_then ?_
      refine n_ret_block ?_
      refine n_ret_then ?_
      refine n_ret1 rfl rfl (fun w' hw => ?_)
      -- leaf 0
      refine ⟨?_, hw.below⟩
      obtain ⟨m, rfl⟩ : ∃ m, n = m + 1 := ⟨n - 1, by omega⟩
      rw [hx, opN, if_pos h1]
    · skip
      have h1 : opAt (s.drop i) n = false := by rw [← opAt_eq]; exact hc1
      refine t_skip ?_
      refine n_block ?_
      refine n_then ?_
      refine t_region ?_
      refine l_q rfl rfl rfl (q_move rfl rfl) ?_
      refine l_q rfl rfl rfl (q_sub64 rfl rfl rfl (by omega)) ?_
      refine l_q rfl rfl rfl (q_assign rfl rfl) ?_
      refine l_nil ?_
      refine n_roundE (n - 1) ?_ ?_ (sub_cons' rfl (congrArg (Value.int IntKind.i64) (by omega)) (sub_nil)) (sub_cons rfl sub_nil) (fun _ h => by try dsimp only; exact subC_st h)
      · try dsimp only
        refine ⟨by omega, ?_⟩
        obtain ⟨m, rfl⟩ : ∃ m, n = m + 1 := ⟨n - 1, by omega⟩
        rw [hx, opN, if_neg (fun h => by rw [h] at h1; cases h1)]; rfl
      · try dsimp only
        omega
  · skip
    try simp at hc0
    refine t_exit ?_
    refine n_exit_then ?_
    refine n_exit_then ?_
    refine n_exit_block ?_
    refine n_then ?_
    refine t_seq ?_
    refine t_region ?_
    refine l_q rfl rfl rfl (q_assign rfl rfl) ?_
    refine l_nil ?_
    refine n_then ?_
    refine t_ret ?_
    refine n_ret1 rfl rfl (fun w' hw => ?_)
    -- leaf 1
    refine ⟨?_, hw.below⟩
    obtain rfl : n = 0 := by omega
    rw [hx]; rfl
set_option maxRecDepth 10000 in
theorem rest_calls (b : Nat) (s : List UInt8) (i : Nat) (I : Look) (F : List HA) (w0 w : World) (hs : s.length ≤ 2305843009213693952) (hi : i ≤ s.length) (hw0 : St w0 I (row b 51 (scC s i 0 0) :: F) w) : TokC 37 51 b s i [.int .i64 (i : Int)] (restP (s.drop i)) I F w := by
  refine enter Tryd.func37 rfl Tryd.ntmps37 rfl (hw0.self) ?_
  refine t_seq ?_
  refine t_region ?_
  refine l_e rfl rfl rfl (e_alloc rfl ti28 rfl) ?_
  rintro _ _ _ ⟨b4, rfl, rfl, rfl⟩
  refine l_heap (H' := row b4 28 (tokC tok0) :: _) ?_ (fun _ h => h)
  refine l_q rfl rfl rfl (q_assign rfl rfl) ?_
  refine l_nil ?_
  refine n_then ?_
  refine t_seq ?_
  refine t_seq ?_
  refine t_region ?_
  refine l_q rfl rfl rfl (q_move rfl rfl) ?_
  refine l_e rfl rfl rfl (eff_call rfl rfl rfl Tryd.func52 (by kernel_rfl) rfl (fun w hw => word_calls b s i _ _ _ w hs hi (picks_st1 (row b 51 (scC s i 0 0)) hw))) ?_
  rintro _ _ _ ⟨rfl, ok8, i8, a8, e8, rfl, hr8, hi8, rfl⟩
  refine l_q rfl rfl rfl (q_not rfl rfl) ?_
  refine l_nil ?_
  refine n_then ?_
  refine t_cond rfl (fun hc0 => ?_) (fun hc0 => ?_)
  · skip
    have hk : ok8 = false := by simpa using hc0
    obtain ⟨a, h1, rfl⟩ := hr8.f hk
    refine t_seq ?_
    refine t_region ?_
    refine l_q rfl rfl rfl (q_build (pl := [(_, _), (_, _), (_, _), (_, _), (_, _)]) (cs := (tokC tok0).toArray) rfl Tryd.underlying28 ti28 ⟨rfl, ⟨_, _, ti3⟩, rfl, ⟨_, _, ti9⟩, rfl, ⟨_, _, ti3⟩, rfl, ⟨_, _, ti9⟩, rfl, ⟨_, _, ti4⟩, trivial⟩ rfl rfl) ?_
    refine l_e0 rfl rfl ((by first | exact e_store_all rfl ti28 rfl rfl rfl (by first | exact chC_ones _ | exact pcC_ones _ | exact tokC_ones _ | simp [Value.oneCell', str, u8]) rfl | exact e_store_agg rfl ti28 rfl rfl rfl (by first | exact chC_ones _ | exact pcC_ones _ | exact tokC_ones _ | simp [Value.oneCell', str, u8]) rfl)) ?_
    rintro _ _ _ ⟨rfl, rfl⟩
    refine l_q rfl rfl rfl (q_assign rfl rfl) ?_
    refine l_nil ?_
    refine n_then ?_
    refine t_ret ?_
    refine n_ret_then ?_
    refine n_retGG (.inl rfl) rfl (by exact rg_row rfl Tryd.underlying28 ti28 rfl rfl (rg_tmp rfl (rg_nil))) (fun w' hw => ?_)
    -- leaf 0
    exact ⟨_, rfl, I, _, ⟨rfl, tok0, false, i8, (i + a), e8, rfl, (by rw [restP, h1]; exact ⟨rfl, rfl, rfl, rfl⟩), hi8, rfl⟩, subC_st hw⟩
  · skip
    have hk : ok8 = true := by simpa using hc0
    obtain ⟨k, h1, rfl, rfl, rfl⟩ := hr8.t hk
    have hkl : ((s.drop i).take k).length = k := by rw [List.length_take, List.length_drop]; omega
    refine t_skip ?_
    refine n_then ?_
    refine t_seq ?_
    refine t_draw [12, 13] [] [row b 51 (scC s (i + k) 0 0)] mo (by kernel_rfl) (fun _ _ _ _ _ h => h) ?_
    refine r_q0 0 (by kernel_rfl) rfl (Le.refl _) rfl rfl rfl (fun _ hI => q_move rfl rfl) ?_
    refine r_q0 1 (by kernel_rfl) rfl (Le.refl _) rfl rfl rfl (fun _ hI => q_nilCheck rfl rfl) ?_
    refine r_q0 2 (by kernel_rfl) rfl (Le.refl _) rfl rfl rfl (fun _ hI => q_fieldAddr rfl Tryd.underlying51 rfl rfl ti9 rfl rfl) ?_
    refine r_q0 3 (by kernel_rfl) rfl (Le.refl _) rfl rfl rfl (fun _ hI => q_load_row rfl Tryd.underlying9 rfl rfl (by rfl)) ?_
    refine r_q0 4 (by kernel_rfl) rfl (Le.refl _) rfl rfl rfl (fun _ hI => q_move rfl rfl) ?_
    refine r_q0 5 (by kernel_rfl) rfl (Le.refl _) rfl rfl rfl (fun _ hI => q_move rfl rfl) ?_
    refine r_q0 6 (by kernel_rfl) rfl (Le.refl _) rfl rfl rfl (fun _ hI => q_nilCheck rfl rfl) ?_
    refine r_q0 7 (by kernel_rfl) rfl (Le.refl _) rfl rfl rfl (fun _ hI => q_fieldAddr rfl Tryd.underlying51 rfl rfl ti3 rfl rfl) ?_
    refine r_q0 8 (by kernel_rfl) rfl (Le.refl _) rfl rfl rfl (fun _ hI => q_load_row rfl Tryd.underlying3 rfl rfl (by rfl)) ?_
    refine r_q0 9 (by kernel_rfl) rfl (Le.refl _) rfl rfl rfl (fun _ hI => q_slice_str rfl Tryd.underlying9 rfl rfl rfl (by omega)) ?_
    rw [slice_to s i k]
    refine r_q0 10 (by kernel_rfl) rfl (Le.refl _) rfl rfl rfl (fun _ hI => q_move rfl rfl) ?_
    refine r_q0 11 (by kernel_rfl) rfl (Le.refl _) rfl rfl rfl (fun _ hI => q_build (pl := [(_, _), (_, _), (_, _), (_, _), (_, _)]) (cs := (tokC ⟨1, (s.drop i).take k, i, [], false⟩).toArray) rfl Tryd.underlying28 ti28 ⟨rfl, ⟨_, _, ti3⟩, rfl, ⟨_, _, ti9⟩, rfl, ⟨_, _, ti3⟩, rfl, ⟨_, _, ti9⟩, rfl, ⟨_, _, ti4⟩, trivial⟩ rfl rfl) ?_
    refine r_e 12 (by kernel_rfl) (by kernel_rfl) rfl (Le.refl _) rfl rfl rfl (e_alloc rfl ti28 rfl) ?_
    rintro _ _ _ ⟨b6, rfl, rfl, rfl⟩
    refine ⟨Le.refl _, .inr SubC.sub, ?_⟩
    refine r_e0 13 (by kernel_rfl) (by kernel_rfl) rfl (Le.refl _) rfl rfl ((by first | exact e_store_all rfl ti28 rfl rfl rfl (by first | exact chC_ones _ | exact pcC_ones _ | exact tokC_ones _ | simp [Value.oneCell', str, u8]) rfl | exact e_store_agg rfl ti28 rfl rfl rfl (by first | exact chC_ones _ | exact pcC_ones _ | exact tokC_ones _ | simp [Value.oneCell', str, u8]) rfl)) ?_
    rintro _ _ _ ⟨rfl, rfl⟩
    refine ⟨Le.refl _, .inr SubC.sub, ?_⟩
    refine r_end (by kernel_rfl) ?_
    refine n_then ?_
    refine t_seq ?_
    refine t_seq ?_
    refine t_region ?_
    refine l_q rfl rfl rfl (q_fieldAddr rfl Tryd.underlying28 rfl rfl ti9 rfl rfl) ?_
    refine l_q rfl rfl rfl (q_load_row rfl Tryd.underlying9 rfl rfl (by rfl)) ?_
    refine l_q rfl rfl rfl (q_len_str rfl Tryd.underlying9 rfl) ?_
    refine l_q rfl rfl rfl (q_gtr rfl rfl rfl) ?_
    refine l_nil ?_
    refine n_then ?_
    refine t_cond rfl (fun hc1 => ?_) (fun hc1 => ?_)
    · skip
      try simp at hc1
      have h4 : 4096 < k := by omega
      refine t_seq ?_
      refine t_region ?_
      refine l_q rfl rfl rfl (q_move rfl rfl) ?_
      refine l_q rfl rfl rfl (q_move rfl rfl) ?_
      refine l_e rfl rfl rfl (eff_call rfl rfl rfl Tryd.func45 (by kernel_rfl) rfl (fun w hw => fail_calls b s (i + k) i 51 _ _ _ w (picks_st1 (row b 51 (scC s (i + k) 0 0)) hw))) ?_
      rintro _ _ _ ⟨rfl, rfl, rfl⟩
      refine l_nil ?_
      refine n_then ?_
      refine t_seq ?_
      refine t_region ?_
      refine l_q rfl rfl rfl (q_build (pl := [(_, _), (_, _), (_, _), (_, _), (_, _)]) (cs := (tokC tok0).toArray) rfl Tryd.underlying28 ti28 ⟨rfl, ⟨_, _, ti3⟩, rfl, ⟨_, _, ti9⟩, rfl, ⟨_, _, ti3⟩, rfl, ⟨_, _, ti9⟩, rfl, ⟨_, _, ti4⟩, trivial⟩ rfl rfl) ?_
      refine l_e0 rfl rfl ((by first | exact e_store_all rfl ti28 rfl rfl rfl (by first | exact chC_ones _ | exact pcC_ones _ | exact tokC_ones _ | simp [Value.oneCell', str, u8]) rfl | exact e_store_agg rfl ti28 rfl rfl rfl (by first | exact chC_ones _ | exact pcC_ones _ | exact tokC_ones _ | simp [Value.oneCell', str, u8]) rfl)) ?_
      rintro _ _ _ ⟨rfl, rfl⟩
      refine l_q rfl rfl rfl (q_assign rfl rfl) ?_
      refine l_nil ?_
      refine n_then ?_
      refine t_ret ?_
      refine n_ret_then ?_
      refine n_retGG (.inl rfl) rfl (by exact rg_row rfl Tryd.underlying28 ti28 rfl rfl (rg_tmp rfl (rg_nil))) (fun w' hw => ?_)
      -- leaf 1
      exact ⟨_, rfl, I, _, ⟨rfl, tok0, false, (i + k), i, 51, rfl, (by rw [restP, h1]; simp only [if_pos h4]; exact ⟨rfl, rfl, rfl, rfl⟩), hi8, rfl⟩, subC_st hw⟩
    · skip
      try simp at hc1
      have h4 : ¬ 4096 < k := by omega
      refine t_skip ?_
      refine n_then ?_
      refine t_cutE (ι := Nat) (fun zz => zz = if numberB (s.drop i) k then 4 else 1) (fun zz => []) [(0, _), (1, _), (4, _), (5, _), (9, _), (6, _), (26, _)] (fun zz => I) (fun zz => (row b6 28 (tokC ⟨zz, (s.drop i).take k, i, [], false⟩) :: row b4 28 (tokC tok0) :: row b 51 (scC s (i + k) 0 0) :: F)) (sub_cons rfl (sub_cons rfl (sub_cons rfl (sub_cons rfl (sub_cons rfl (sub_cons rfl (sub_cons rfl sub_nil))))))) ?_ ?_
      · skip
        refine t_seq ?_
        refine t_qreg ?_
        refine s_q rfl rfl rfl (q_fieldAddr rfl Tryd.underlying28 rfl rfl ti9 rfl rfl) ?_
        refine s_q rfl rfl rfl (q_load_row rfl Tryd.underlying9 rfl rfl (by rfl)) ?_
        refine s_q rfl rfl rfl (quiet_call rfl rfl rfl Tryd.func53 (by kernel_rfl) rfl ((fun w _ => trim_pure ((s.drop i).take k) digitsS w (by rw [List.length_take, List.length_drop]; omega) (by decide) (by decide)))) ?_
        refine s_q rfl rfl rfl (q_eql_str rfl rfl rfl) ?_
        refine s_q rfl rfl rfl (q_move rfl rfl) ?_
        refine s_and2 6 4 35 42 41 _ _ rfl rfl rfl rfl rfl rfl (fun h42 => by
            try simp at h42
            refine s_g rfl rfl rfl rfl rfl rfl (q_move rfl rfl) ?_
            refine s_g rfl rfl rfl rfl rfl rfl (quiet_call rfl rfl rfl Tryd.func23 (by kernel_rfl) rfl ((fun w hw => starts_pure b s [60] (i + k) 0 0 w (by omega) (rowed_of hw)))) ?_
            refine s_g rfl rfl rfl rfl rfl rfl (q_move rfl rfl) ?_
            refine s_or2 2 7 38 41 40 _ _ rfl rfl rfl rfl rfl rfl (fun h41 => by
                try simp at h41
                refine s_g rfl rfl rfl rfl rfl rfl (q_move rfl rfl) ?_
                refine s_g rfl rfl rfl rfl rfl rfl (quiet_call rfl rfl rfl Tryd.func23 (by kernel_rfl) rfl ((fun w hw => starts_pure b s [62] (i + k) 0 0 w (by omega) (rowed_of hw)))) ?_
                exact s_val rfl
              ) (wanted_g rfl rfl rfl rfl) rfl rfl rfl ?_
            exact s_val rfl
          ) (wanted_n rfl) rfl rfl rfl ?_
        refine s_done ?_
        refine n_then ?_
        refine t_cond rfl (fun hc2 => ?_) (fun hc2 => ?_)
        · skip
          have hnum : numberB (s.drop i) k = true := by rw [numberB, List.drop_drop]; exact hc2
          refine t_region ?_
          refine l_q rfl rfl rfl (q_fieldAddr rfl Tryd.underlying28 rfl rfl ti3 rfl rfl) ?_
          refine l_e0 rfl rfl (e_storeS rfl ti3 rfl rfl (by first | exact ⟨rfl, rfl⟩ | assumption) rfl (by first | (simp only [List.set_cons_succ, List.set_cons_zero]; rfl) | rfl)) ?_
          rintro _ _ _ ⟨rfl, rfl⟩
          refine l_heap (H' := row b6 28 (tokC ⟨4, (s.drop i).take k, i, [], false⟩) :: _) ?_ (fun _ h => h)
          refine l_nil ?_
          refine n_cut (4) ?_ (sub_nil) (sub_cons rfl (sub_cons rfl (sub_cons rfl (sub_cons rfl (sub_cons rfl (sub_cons rfl (sub_cons rfl sub_nil))))))) (fun _ h => by try dsimp only; exact subC_st h)
          · try dsimp only
            rw [hnum, if_pos rfl]
        · skip
          have hnum : numberB (s.drop i) k = false := by rw [numberB, List.drop_drop]; exact hc2
          refine t_skip ?_
          refine n_cut (1) ?_ (sub_nil) (sub_cons rfl (sub_cons rfl (sub_cons rfl (sub_cons rfl (sub_cons rfl (sub_cons rfl (sub_cons rfl sub_nil))))))) (fun _ h => by try dsimp only; exact subC_st h)
          · try dsimp only
            rw [hnum, if_neg (by simp)]
      rintro kd hkd
      try dsimp only at *
      refine t_seq ?_
      refine t_region ?_
      refine l_q rfl rfl rfl (q_load_rowA rfl Tryd.underlying28 ti28 rfl rfl rfl) ?_
      refine l_e0 rfl rfl ((by first | exact e_store_all rfl ti28 rfl rfl rfl (by first | exact chC_ones _ | exact pcC_ones _ | exact tokC_ones _ | simp [Value.oneCell', str, u8]) rfl | exact e_store_agg rfl ti28 rfl rfl rfl (by first | exact chC_ones _ | exact pcC_ones _ | exact tokC_ones _ | simp [Value.oneCell', str, u8]) rfl)) ?_
      rintro _ _ _ ⟨rfl, rfl⟩
      refine l_q rfl rfl rfl (q_assign rfl rfl) ?_
      refine l_nil ?_
      refine n_then ?_
      refine t_ret ?_
      refine n_retGG (.inl rfl) rfl (by exact rg_row rfl Tryd.underlying28 ti28 rfl rfl (rg_tmp rfl (rg_nil))) (fun w' hw => ?_)
      -- leaf 2
      exact ⟨_, rfl, I, _, ⟨rfl, ⟨kd, (s.drop i).take k, i, [], false⟩, true, (i + k), 0, 0, rfl, (by rw [restP, h1]; simp only [if_neg h4, ← hkd]; exact ⟨rfl, rfl, rfl, rfl, rfl⟩), hi8, rfl⟩, subC_st hw⟩
end Go.Tri
