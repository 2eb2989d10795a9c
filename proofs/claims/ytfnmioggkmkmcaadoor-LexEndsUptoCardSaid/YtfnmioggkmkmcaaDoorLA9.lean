/-
  Delimiters and documents.
-/
import Derived.Test.YtfnmioggkmkmcaaDoorLA8
import Derived.Test.YtfnmioggkmkmcaaDoorPLex5
namespace Go.Tri
open Go.Proofs Go.RowKit
theorem anyOf_has (s : List UInt8) : anyOf s quoteSet = s.any (hasB quoteSet) := rfl
theorem cut_pure (l : List UInt8) (w : World) (hl : l.length ≤ 1000000000) (hG : EnvI (look w)) : Pure Tryd.prog 40 [str l, str [10]] w (.tuple #[str (l.take (remark l)), str (Lib.cut l [10]).2.1, .bool (hasB l 10)]) := by
  obtain ⟨m, hm⟩ := hG.cell
  have hsz := size_str l
  refine (Tryd.strings_Cut ⟨l.toArray⟩ ⟨#[10]⟩ m w (by omega) hm).mono fun e w' ⟨h1, n, h2⟩ => ?_
  subst h2
  refine ⟨?_, below_drewN (Below.refl _ w) n⟩
  rw [h1]
  have e0 : (⟨l.toArray⟩ : ByteArray).data.toList = l := by simp
  have e9 : (⟨#[10]⟩ : ByteArray).data.toList = [10] := rfl
  rw [e0, e9]
  have e1 : (Lib.cut l [10]).1 = l.take (remark l) := by
    unfold Lib.cut remark
    rw [index_one]
    split
    · rfl
    · rw [List.take_length]
  have e2 : (Lib.cut l [10]).2.2 = hasB l 10 := by
    unfold Lib.cut
    rw [index_one, ← indexByte_has]
    split
    · rename_i h; rw [decide_eq_true h]
    · rename_i h; rw [decide_eq_false h]
  rw [e1, e2]; rfl
theorem trimLeft_pure (l : List UInt8) (w : World) : Pure Tryd.prog 41 [str l, str [9]] w (str (Lib.trimLeftB l 9)) := by
  refine (Tryd.strings_TrimLeft_one ⟨l.toArray⟩ 9 (by decide) w).mono fun e w' ⟨h1, h2⟩ => ?_
  subst h2
  exact ⟨h1, Below.refl _ _⟩
def DRel (i : Nat) (r : DocR) (dd : List UInt8) (ok : Bool) (i' : Nat) : Prop := match r with
  | some x => ok = true ∧ dd = x.1 ∧ i' = i + x.2
  | none => ok = false ∧ dd = []
theorem DRel.t {i i' : Nat} {r : DocR} {dd : List UInt8} {ok : Bool} (h : DRel i r dd ok i') (hok : ok = true) : ∃ k, r = some (dd, k) ∧ i' = i + k := by
  cases r with
  | some x => exact ⟨x.2, by rw [h.2.1], h.2.2⟩
  | none => rw [h.1] at hok; cases hok
theorem DRel.f {i i' : Nat} {r : DocR} {dd : List UInt8} {ok : Bool} (h : DRel i r dd ok i') (hok : ok = false) : r = none := by
  cases r with
  | some x => rw [h.1] at hok; cases hok
  | none => rfl
def DocC (f : FuncId) (T : TypeId) (b : Nat) (s : List UInt8) (i : Nat) (args : List Value) (r : DocR) (I : Look) (F : List HA) (w : World) : Prop :=
  Calls Tryd.prog f (.pointer (some ⟨b, 0, none⟩) :: args).toArray w (fun e w' => ∃ v, e = .returned v ∧ ∃ I' H', (I = I' ∧ ∃ dd ok i', v = .tuple #[str dd, .bool ok] ∧ DRel i r dd ok i' ∧ i' ≤ s.length ∧ H' = row b T (scC s i' 0 0) :: F) ∧ St w I' H' w')
set_option maxRecDepth 10000 in
theorem bare_pure (s : List UInt8) (w : World) (hs : s.length ≤ 1000000000) : Pure Tryd.prog 18 [str s] w (.tuple #[str (bareP s), .bool (anyOf s quoteSet)]) := by
  refine enter Tryd.func18 rfl Tryd.ntmps18 rfl (St.start w (look w) (Le.refl _)) ?_
  refine t_seq ?_
  refine t_region ?_
  refine l_q rfl rfl rfl (q_assign rfl rfl) ?_
  refine l_q rfl rfl rfl (q_assign rfl rfl) ?_
  refine l_nil ?_
  refine n_then ?_
  refine t_seq ?_
  refine t_region ?_
  refine l_q rfl rfl rfl (q_assign rfl rfl) ?_
  refine l_nil ?_
  refine n_then ?_
  refine t_seq ?_
  refine t_seq ?_
  refine t_region ?_
  refine l_q rfl rfl rfl (q_assign rfl rfl) ?_
  refine l_nil ?_
  refine n_then ?_
  refine t_block ?_
  refine t_loopE (ι := Nat × Value × List UInt8) (fun zz => zz.1 ≤ s.length + 1 ∧ bareP s = zz.2.2 ++ bareP (s.drop zz.1) ∧ zz.2.2.length ≤ zz.1) (fun zz => s.length + 1 - zz.1) (fun zz => [(5, .int .i64 (zz.1 : Int)), (4, zz.2.1)]) [(0, _), (2, _), (3, _)] (fun zz => look w) (fun zz => [tvec 5 1 byC zz.2.1 zz.2.2]) (0, .slice none 0 0, []) ?_ (sub_cons rfl (sub_cons rfl sub_nil)) (sub_cons rfl (sub_cons rfl (sub_cons rfl sub_nil))) (fun _ h => st_nilT 5 1 byC h) ?_
  · try dsimp only
    exact ⟨by omega, by simp, Nat.le_refl _⟩
  rintro ⟨i, v, l⟩ ⟨hi, hb, hl⟩
  try dsimp only at *
  refine t_seq ?_
  refine t_seq ?_
  refine t_region ?_
  refine l_q rfl rfl rfl (q_move rfl rfl) ?_
  refine l_q rfl rfl rfl (q_move rfl rfl) ?_
  refine l_q rfl rfl rfl (q_len_str rfl Tryd.underlying9 rfl) ?_
  refine l_q rfl rfl rfl (q_lss rfl rfl rfl) ?_
  refine l_nil ?_
  refine n_then ?_
  refine t_cond rfl (fun hc0 => ?_) (fun hc0 => ?_)
  · skip
    try simp at hc0
    refine t_skip ?_
    refine n_then ?_
    refine t_seq ?_
    refine t_block ?_
    refine t_seq ?_
    refine t_region ?_
    refine l_q rfl rfl rfl (q_move rfl rfl) ?_
    refine l_q rfl rfl rfl (q_move rfl rfl) ?_
    refine l_q rfl rfl rfl ((by first | exact q_index_strN rfl Tryd.underlying9 rfl rfl (by omega) | exact q_index_str rfl Tryd.underlying9 rfl rfl (by omega))) ?_
    refine l_q rfl rfl rfl (q_assign rfl rfl) ?_
    refine l_nil ?_
    refine n_then ?_
    refine t_block ?_
    refine t_seq ?_
    refine t_qreg ?_
    refine s_q rfl rfl rfl (q_move rfl rfl) ?_
    refine s_q rfl rfl rfl (q_eql_u8c rfl rfl rfl rfl) ?_
    refine s_q rfl rfl rfl (q_move rfl rfl) ?_
    refine s_or2 2 2 23 26 25 _ _ rfl rfl rfl rfl rfl rfl (fun h26 => by
        try simp at h26
        refine s_g rfl rfl rfl rfl rfl rfl (q_move rfl rfl) ?_
        refine s_g rfl rfl rfl rfl rfl rfl (q_eql_u8c rfl rfl rfl rfl) ?_
        exact s_val rfl
      ) (wanted_n rfl) rfl rfl rfl ?_
    refine s_q rfl rfl rfl (q_assign rfl rfl) ?_
    refine s_done ?_
    refine n_then ?_
    refine t_cond rfl (fun hc1 => ?_) (fun hc1 => ?_)
    · skip
      have hq : nth s i 0 = 39 ∨ nth s i 0 = 34 := by have h1 : (decide (nth s i 0 = 39) || decide (nth s i 0 = 34)) = true := hc1; simpa using h1
      refine t_skip ?_
      refine n_block ?_
      refine n_block ?_
      refine n_then ?_
      refine t_region ?_
      refine l_q rfl rfl rfl (q_move rfl rfl) ?_
      refine l_q rfl rfl rfl (q_add64 rfl rfl rfl (by omega)) ?_
      refine l_q rfl rfl rfl (q_assign rfl rfl) ?_
      refine l_nil ?_
      refine n_roundE ((i + 1, v, l)) ?_ ?_ (sub_cons rfl (sub_cons rfl sub_nil)) (sub_cons rfl (sub_cons rfl (sub_cons rfl sub_nil))) (fun _ h => by try dsimp only; exact subC_st h)
      · try dsimp only
        exact ⟨by omega, by rw [hb, bare_q (by omega) hq], by omega⟩
      · try dsimp only
        show s.length + 1 - (i + 1) < s.length + 1 - i; omega
    · skip
      have hq : ¬ (nth s i 0 = 39 ∨ nth s i 0 = 34) := by have h1 : (decide (nth s i 0 = 39) || decide (nth s i 0 = 34)) = false := hc1; simpa using h1
      refine t_seq ?_
      refine t_region ?_
      refine l_q rfl rfl rfl (q_move rfl rfl) ?_
      refine l_q rfl rfl rfl (q_eql_u8c rfl rfl rfl rfl) ?_
      refine l_q rfl rfl rfl (q_assign rfl rfl) ?_
      refine l_nil ?_
      refine n_then ?_
      refine t_cond rfl (fun hc2 => ?_) (fun hc2 => ?_)
      · skip
        simp only [decide_eq_true_eq, decide_eq_false_iff_not] at hc2
        have hc2 : nth s i 0 = 92 := hc2
        refine t_seq ?_
        refine t_region ?_
        refine l_q rfl rfl rfl (q_move rfl rfl) ?_
        refine l_q rfl rfl rfl (q_add64 rfl rfl rfl (by omega)) ?_
        refine l_q rfl rfl rfl (q_assign rfl rfl) ?_
        refine l_nil ?_
        refine n_then ?_
        refine t_seq ?_
        refine t_region ?_
        refine l_q rfl rfl rfl (q_move rfl rfl) ?_
        refine l_q rfl rfl rfl (q_move rfl rfl) ?_
        refine l_q rfl rfl rfl (q_len_str rfl Tryd.underlying9 rfl) ?_
        refine l_q rfl rfl rfl (q_lss rfl rfl rfl) ?_
        refine l_nil ?_
        refine n_then ?_
        refine t_cond rfl (fun hc3 => ?_) (fun hc3 => ?_)
        · skip
          try simp at hc3
          refine t_region ?_
          refine l_q rfl rfl rfl (q_move rfl rfl) ?_
          refine l_q rfl rfl rfl (q_move rfl rfl) ?_
          refine l_q rfl rfl rfl (q_move rfl rfl) ?_
          refine l_q rfl rfl rfl ((by first | exact q_index_strN rfl Tryd.underlying9 rfl rfl (by omega) | exact q_index_str rfl Tryd.underlying9 rfl rfl (by omega))) ?_
          refine l_e rfl rfl rfl (e_buildSlice1 rfl Tryd.underlying75 ti5 rfl rfl rfl (by first | exact One.cells (by assumption) | rfl) rfl) ?_
          rintro _ _ _ ⟨b40, rfl, rfl, rfl⟩
          refine l_e rfl rfl rfl (e_appendT (f := byC) (c := nth s (i + 1) 0) rfl Tryd.underlying75 ti5 rfl rfl rfl rfl rfl rfl rfl (by first | exact byC_ones _ | exact chC_ones _ | exact pcC_ones _ | simp [Value.oneCell', str, u8] | exact ones1 (by assumption)) (by simp only [maxLen]; omega) (by omega)) ?_
          rintro v41 _ _ ⟨rfl, rfl⟩
          refine l_q rfl rfl rfl (q_assign rfl rfl) ?_
          refine l_nil ?_
          refine n_block ?_
          refine n_block ?_
          refine n_then ?_
          refine t_region ?_
          refine l_q rfl rfl rfl (q_move rfl rfl) ?_
          refine l_q rfl rfl rfl (q_add64 rfl rfl rfl (by omega)) ?_
          refine l_q rfl rfl rfl (q_assign rfl rfl) ?_
          refine l_nil ?_
          refine n_roundE ((i + 2, v41, l ++ [nth s (i + 1) 0])) ?_ ?_ (sub_cons rfl (sub_cons rfl sub_nil)) (sub_cons rfl (sub_cons rfl (sub_cons rfl sub_nil))) (fun _ h => by try dsimp only; exact subC_st h)
          · try dsimp only
            refine ⟨by omega, by rw [hb, bare_esc (by omega) hc2]; simp, by simp; omega⟩
          · try dsimp only
            show s.length + 1 - (i + 2) < s.length + 1 - i; omega
        · skip
          try simp at hc3
          refine t_skip ?_
          refine n_block ?_
          refine n_block ?_
          refine n_then ?_
          refine t_region ?_
          refine l_q rfl rfl rfl (q_move rfl rfl) ?_
          refine l_q rfl rfl rfl (q_add64 rfl rfl rfl (by omega)) ?_
          refine l_q rfl rfl rfl (q_assign rfl rfl) ?_
          refine l_nil ?_
          refine n_roundE ((i + 2, v, l)) ?_ ?_ (sub_cons rfl (sub_cons rfl sub_nil)) (sub_cons rfl (sub_cons rfl (sub_cons rfl sub_nil))) (fun _ h => by try dsimp only; exact subC_st h)
          · try dsimp only
            refine ⟨by omega, by rw [hb, bare_end (by omega) (by omega) hc2, List.drop_of_length_le (by omega), bare_nil], by omega⟩
          · try dsimp only
            show s.length + 1 - (i + 2) < s.length + 1 - i; omega
      · skip
        simp only [decide_eq_true_eq, decide_eq_false_iff_not] at hc2
        have hc2 : ¬ nth s i 0 = 92 := hc2
        refine t_region ?_
        refine l_q rfl rfl rfl (q_move rfl rfl) ?_
        refine l_q rfl rfl rfl (q_move rfl rfl) ?_
        refine l_e rfl rfl rfl (e_buildSlice1 rfl Tryd.underlying75 ti5 rfl rfl rfl (by first | exact One.cells (by assumption) | rfl) rfl) ?_
        rintro _ _ _ ⟨b18, rfl, rfl, rfl⟩
        refine l_e rfl rfl rfl (e_appendT (f := byC) (c := nth s i 0) rfl Tryd.underlying75 ti5 rfl rfl rfl rfl rfl rfl rfl (by first | exact byC_ones _ | exact chC_ones _ | exact pcC_ones _ | simp [Value.oneCell', str, u8] | exact ones1 (by assumption)) (by simp only [maxLen]; omega) (by omega)) ?_
        rintro v19 _ _ ⟨rfl, rfl⟩
        refine l_q rfl rfl rfl (q_assign rfl rfl) ?_
        refine l_nil ?_
        refine n_block ?_
        refine n_block ?_
        refine n_then ?_
        refine t_region ?_
        refine l_q rfl rfl rfl (q_move rfl rfl) ?_
        refine l_q rfl rfl rfl (q_add64 rfl rfl rfl (by omega)) ?_
        refine l_q rfl rfl rfl (q_assign rfl rfl) ?_
        refine l_nil ?_
        refine n_roundE ((i + 1, v19, l ++ [nth s i 0])) ?_ ?_ (sub_cons rfl (sub_cons rfl sub_nil)) (sub_cons rfl (sub_cons rfl (sub_cons rfl sub_nil))) (fun _ h => by try dsimp only; exact subC_st h)
        · try dsimp only
          refine ⟨by omega, by rw [hb, bare_c (by omega) hq hc2]; simp, by simp; omega⟩
        · try dsimp only
          show s.length + 1 - (i + 1) < s.length + 1 - i; omega
  · skip
    try simp at hc0
    rw [List.drop_of_length_le (by omega), bare_nil, List.append_nil] at hb
    refine t_exit ?_
    refine n_exit_then ?_
    refine n_exit_then ?_
    refine n_exit_block ?_
    refine n_then ?_
    refine t_seq ?_
    refine t_qdraw mo (by kernel_rfl) (fun _ _ _ _ _ h => h) ?_
    refine s_q rfl rfl rfl (q_move rfl rfl) ?_
    refine s_q rfl rfl rfl (q_bytes_str rfl Tryd.underlying75 Tryd.underlying9 Tryd.underlying5 rfl) ?_
    refine s_q rfl rfl rfl (q_move rfl rfl) ?_
    refine s_q rfl rfl rfl (quiet_call rfl rfl rfl Tryd.func39 (by kernel_rfl) rfl ((fun w _ => containsAny_pure s quoteSet w hs (by decide) (by decide) (by unfold Ascii quoteSet; decide)))) ?_
    refine s_q rfl rfl rfl (q_assign rfl rfl) ?_
    refine s_q rfl rfl rfl (q_assign rfl rfl) ?_
    refine s_done ?_
    refine n_then ?_
    refine t_ret ?_
    refine n_ret2 rfl rfl rfl (fun w' hw => ?_)
    -- leaf 0
    refine ⟨?_, hw.below⟩
    rw [hb]
set_option maxRecDepth 10000 in
theorem document_calls (b : Nat) (s d : List UInt8) (strip : Bool) (i : Nat) (I : Look) (F : List HA) (w0 w : World) (hs : s.length ≤ 1000000) (hi : i ≤ s.length) (hG : EnvI I) (hw0 : St w0 I (row b 51 (scC s i 0 0) :: F) w) : DocC 19 51 b s i [str d, .bool strip] (docP strip d (s.drop i)) I F w := by
  refine enter Tryd.func19 rfl Tryd.ntmps19 rfl (hw0.self) ?_
  refine t_seq ?_
  refine t_region ?_
  refine l_q rfl rfl rfl (q_assign rfl rfl) ?_
  refine l_q rfl rfl rfl (q_assign rfl rfl) ?_
  refine l_nil ?_
  refine n_then ?_
  refine t_seq ?_
  refine t_region ?_
  refine l_e rfl rfl rfl (e_alloc rfl ti78 rfl) ?_
  rintro _ _ _ ⟨b8, rfl, rfl, rfl⟩
  refine l_nil ?_
  refine n_then ?_
  refine t_seq ?_
  refine t_block ?_
  refine t_loopE (ι := Nat × Nat × Option Addr × Value × List UInt8) (fun zz => i ≤ zz.1 ∧ zz.1 ≤ s.length ∧ docP strip d (s.drop i) = DocR.on zz.2.2.2.2 (zz.1 - i) (docL strip d zz.2.1 (s.drop zz.1)) ∧ (s.drop zz.1).length ≤ zz.2.1 ∧ zz.2.2.2.2.length ≤ zz.1 ∧ (zz.2.2.1 = none ∨ zz.2.2.1 = some ⟨b8, 0, none⟩) ∧ BufOk zz.2.2.2.1 zz.2.2.2.2) (fun zz => s.length - zz.1) (fun zz => []) [(0, _), (1, _), (2, _), (8, _)] (fun zz => I) (fun zz => (row b8 78 [.pointer zz.2.2.1, zz.2.2.2.1] :: tvec 5 1 byC zz.2.2.2.1 zz.2.2.2.2 :: row b 51 (scC s zz.1 0 0) :: F)) (i, (s.drop i).length, none, .slice none 0 0, []) ?_ (sub_nil) (sub_cons rfl (sub_cons rfl (sub_cons rfl (sub_cons rfl sub_nil)))) (fun _ h => subC_st (st_nilT 5 1 byC h)) ?_
  · try dsimp only
    exact ⟨Nat.le_refl _, hi, by rw [Nat.sub_self, DocR.on_zero]; rfl, Nat.le_refl _, Nat.zero_le _, .inl rfl, .inl rfl⟩
  rintro ⟨j, g, p, vb, acc⟩ ⟨hj1, hj2, hx, hfl, hal, hp, hok⟩
  try dsimp only at *
  refine t_seq ?_
  refine t_seq ?_
  refine t_qdraw mo (by kernel_rfl) (fun _ _ _ _ _ h => h) ?_
  refine s_q rfl rfl rfl (q_move rfl rfl) ?_
  refine s_q rfl rfl rfl (q_nilCheck rfl rfl) ?_
  refine s_q rfl rfl rfl (q_fieldAddr rfl Tryd.underlying51 rfl rfl ti3 rfl rfl) ?_
  refine s_q rfl rfl rfl (q_load_row rfl Tryd.underlying3 rfl rfl (by rfl)) ?_
  refine s_q rfl rfl rfl (q_move rfl rfl) ?_
  refine s_q rfl rfl rfl (q_nilCheck rfl rfl) ?_
  refine s_q rfl rfl rfl (q_fieldAddr rfl Tryd.underlying51 rfl rfl ti9 rfl rfl) ?_
  refine s_q rfl rfl rfl (q_load_row rfl Tryd.underlying9 rfl rfl (by rfl)) ?_
  refine s_q rfl rfl rfl (q_len_str rfl Tryd.underlying9 rfl) ?_
  refine s_q rfl rfl rfl (q_lss rfl rfl rfl) ?_
  refine s_done ?_
  refine n_then ?_
  refine t_cond rfl (fun hc0 => ?_) (fun hc0 => ?_)
  · skip
    try simp at hc0
    have hj : j < s.length := by omega
    have hst := doc_step hx (drop_ne hj) hfl
    have hrl := remark_le (s.drop j)
    have hdl := docLine_len strip (s.drop j)
    rw [List.length_drop] at hrl
    refine t_skip ?_
    refine n_then ?_
    refine t_block ?_
    refine t_seq ?_
    refine t_qdraw mo (by kernel_rfl) (fun _ _ _ _ _ h => h) ?_
    refine s_q rfl rfl rfl (q_move rfl rfl) ?_
    refine s_q rfl rfl rfl (q_nilCheck rfl rfl) ?_
    refine s_q rfl rfl rfl (q_fieldAddr rfl Tryd.underlying51 rfl rfl ti9 rfl rfl) ?_
    refine s_q rfl rfl rfl (q_load_row rfl Tryd.underlying9 rfl rfl (by rfl)) ?_
    refine s_q rfl rfl rfl (q_move rfl rfl) ?_
    refine s_q rfl rfl rfl (q_nilCheck rfl rfl) ?_
    refine s_q rfl rfl rfl (q_fieldAddr rfl Tryd.underlying51 rfl rfl ti3 rfl rfl) ?_
    refine s_q rfl rfl rfl (q_load_row rfl Tryd.underlying3 rfl rfl (by rfl)) ?_
    refine s_q rfl rfl rfl (q_slice_str_from rfl Tryd.underlying9 rfl rfl (by omega)) ?_
    refine s_q rfl rfl rfl (quiet_call rfl rfl rfl Tryd.func40 (by kernel_rfl) rfl ((fun w hw => cut_pure (s.drop j) w (by rw [List.length_drop]; omega) (hG.mono hw.imm)))) ?_
    refine s_q rfl rfl rfl (q_move rfl rfl) ?_
    refine s_q rfl rfl rfl (q_extract rfl rfl rfl) ?_
    refine s_q rfl rfl rfl (q_extract rfl rfl rfl) ?_
    refine s_q rfl rfl rfl (q_extract rfl rfl rfl) ?_
    refine s_q rfl rfl rfl (q_assign rfl rfl) ?_
    refine s_q rfl rfl rfl (q_assign rfl rfl) ?_
    refine s_q rfl rfl rfl (q_assign rfl rfl) ?_
    refine s_done ?_
    refine n_then ?_
    refine t_seq ?_
    have htl : ((s.drop j).take (remark (s.drop j))).length = remark (s.drop j) := by rw [List.length_take, List.length_drop]; omega
    refine t_region ?_
    refine l_q rfl rfl rfl (q_move rfl rfl) ?_
    refine l_q rfl rfl rfl (q_move rfl rfl) ?_
    refine l_q rfl rfl rfl (q_len_str rfl Tryd.underlying9 rfl) ?_
    rw [htl]
    refine l_q rfl rfl rfl (q_add64 rfl rfl rfl (by omega)) ?_
    refine l_e rfl rfl rfl (eff_call rfl rfl rfl Tryd.func35 (by kernel_rfl) rfl (fun w hw => skip_calls b s j (remark (s.drop j) + 1) 0 0 _ _ _ w (by omega) (by omega) (by omega) (picks_st1 (row b 51 (scC s j 0 0)) hw))) ?_
    rintro _ _ _ ⟨rfl, rfl, rfl⟩
    refine l_nil ?_
    refine n_then ?_
    refine t_cutE (ι := Unit) (fun zz => True) (fun zz => [(9, str (docLine strip (s.drop j)))]) [(0, _), (1, _), (2, _), (8, _), (21, _), (11, _)] (fun zz => I) (fun zz => (row b 51 (scC s (min (j + (remark (s.drop j) + 1)) s.length) 0 0) :: row b8 78 [.pointer p, vb] :: tvec 5 1 byC vb acc :: F)) (sub_cons rfl (sub_cons rfl (sub_cons rfl (sub_cons rfl (sub_cons rfl (sub_cons rfl sub_nil)))))) ?_ ?_
    · skip
      refine t_seq ?_
      refine t_region ?_
      refine l_q rfl rfl rfl (q_move rfl rfl) ?_
      refine l_nil ?_
      refine n_then ?_
      refine t_cond rfl (fun hc1 => ?_) (fun hc1 => ?_)
      · skip
        refine t_region ?_
        refine l_q rfl rfl rfl (q_move rfl rfl) ?_
        refine l_q rfl rfl rfl (quiet_call rfl rfl rfl Tryd.func41 (by kernel_rfl) rfl ((fun w _ => trimLeft_pure ((s.drop j).take (remark (s.drop j))) w))) ?_
        refine l_q rfl rfl rfl (q_assign rfl rfl) ?_
        refine l_nil ?_
        refine n_cut (()) ?_ (sub_cons' rfl (by rw [docLine, if_pos hc1]) (sub_nil)) (sub_cons rfl (sub_cons rfl (sub_cons rfl (sub_cons rfl (sub_cons rfl (sub_cons rfl sub_nil)))))) (fun _ h => by try dsimp only; exact subC_st h)
        · try dsimp only
          all_goals trivial
      · skip
        refine t_skip ?_
        refine n_cut (()) ?_ (sub_cons' rfl (by rw [docLine, if_neg (by rw [hc1]; simp)]; rfl) (sub_nil)) (sub_cons rfl (sub_cons rfl (sub_cons rfl (sub_cons rfl (sub_cons rfl (sub_cons rfl sub_nil)))))) (fun _ h => by try dsimp only; exact subC_st h)
        · try dsimp only
          all_goals trivial
    rintro u _
    try dsimp only at *
    refine t_seq ?_
    refine t_seq ?_
    refine t_region ?_
    refine l_q rfl rfl rfl (q_move rfl rfl) ?_
    refine l_q rfl rfl rfl (q_move rfl rfl) ?_
    refine l_q rfl rfl rfl (q_eql_str rfl rfl rfl) ?_
    refine l_nil ?_
    refine n_then ?_
    refine t_cond rfl (fun hc2 => ?_) (fun hc2 => ?_)
    · skip
      have hc2 := of_decide_eq_true hc2
      have hres := hst.1 hc2
      refine t_seq ?_
      refine t_region ?_
      refine l_e rfl rfl rfl (eff_call rfl rfl rfl Tryd.func42 (by kernel_rfl) rfl (fun w hw => builderString_calls b8 (.pointer p) vb acc _ _ _ w hok (by omega) (picks_st2 (row b8 78 [.pointer p, vb]) (tvec 5 1 byC vb acc) hw))) ?_
      rintro _ _ _ ⟨rfl, rfl, rfl⟩
      refine l_q rfl rfl rfl (q_assign rfl rfl) ?_
      refine l_q rfl rfl rfl (q_assign rfl rfl) ?_
      refine l_nil ?_
      refine n_then ?_
      refine t_ret ?_
      refine n_ret_then ?_
      refine n_ret_block ?_
      refine n_ret_then ?_
      refine n_ret_block ?_
      refine n_ret_then ?_
      refine n_ret2 rfl rfl rfl (fun w' hw => ?_)
      -- leaf 0
      refine ⟨_, rfl, I, _, ⟨rfl, acc, true, min (j + (remark (s.drop j) + 1)) s.length, rfl, ?_, (by omega), rfl⟩, subC_st hw⟩
      rw [hres]
      refine ⟨rfl, rfl, ?_⟩
      show _ = i + (j - i + min (remark (s.drop j) + 1) (s.drop j).length)
      rw [List.length_drop]
      omega
    · skip
      have hc2 := of_decide_eq_false hc2
      have hst2 := hst.2 hc2
      refine t_skip ?_
      refine n_then ?_
      refine t_seq ?_
      refine t_seq ?_
      refine t_region ?_
      refine l_q rfl rfl rfl (q_move rfl rfl) ?_
      refine l_q rfl rfl rfl (q_not rfl rfl) ?_
      refine l_nil ?_
      refine n_then ?_
      refine t_cond rfl (fun hc3 => ?_) (fun hc3 => ?_)
      · skip
        have hc3 : hasB (s.drop j) 10 = false := by simpa using hc3
        have hres := hst2.1 hc3
        refine t_exit ?_
        refine n_exit_then ?_
        refine n_exit_other rfl ?_
        refine n_exit_then ?_
        refine n_exit_block ?_
        refine n_then ?_
        refine t_seq ?_
        refine t_region ?_
        refine l_q rfl rfl rfl (q_assign rfl rfl) ?_
        refine l_q rfl rfl rfl (q_assign rfl rfl) ?_
        refine l_nil ?_
        refine n_then ?_
        refine t_ret ?_
        refine n_ret2 rfl rfl rfl (fun w' hw => ?_)
        -- leaf 1
        refine ⟨_, rfl, I, _, ⟨rfl, [], false, min (j + (remark (s.drop j) + 1)) s.length, rfl, ?_, (by omega), rfl⟩, subC_st hw⟩
        rw [hres]
        exact ⟨rfl, rfl⟩
      · skip
        have hc3 : hasB (s.drop j) 10 = true := by simpa using hc3
        have hrem := (remark_has (l := s.drop j)).1 hc3
        rw [List.length_drop] at hrem
        refine t_skip ?_
        refine n_then ?_
        refine t_region ?_
        refine l_q rfl rfl rfl (q_move rfl rfl) ?_
        refine l_q rfl rfl rfl (q_cat rfl rfl rfl (by first | omega | (simp only [List.length_append, List.length_cons, List.length_nil, List.length_take, List.length_drop]; omega))) ?_
        refine l_e rfl rfl rfl (eff_call rfl rfl rfl Tryd.func43 (by kernel_rfl) rfl (fun w hw => writeString_calls b8 p vb acc (docLine strip (s.drop j) ++ [10]) _ _ _ w hp (by simp only [List.length_append, List.length_cons, List.length_nil]; omega) (picks_st2 (row b8 78 [.pointer p, vb]) (tvec 5 1 byC vb acc) hw))) ?_
        rintro _ _ _ ⟨rfl, rfl, vb2, rfl⟩
        refine l_nil ?_
        refine n_block ?_
        refine n_roundE ((j + (remark (s.drop j) + 1), g - 1, some ⟨b8, 0, none⟩, vb2, acc ++ (docLine strip (s.drop j) ++ [10]))) ?_ ?_ (sub_nil) (sub_cons rfl (sub_cons rfl (sub_cons rfl (sub_cons rfl sub_nil)))) (fun _ h => by dsimp only; rw [show min (j + (remark (s.drop j) + 1)) s.length = j + (remark (s.drop j) + 1) by omega] at h; exact subC_st h)
        · try dsimp only
          refine ⟨by omega, by omega, ?_, ?_, ?_, .inr rfl, .inr (by simp)⟩
          · rw [(hst2.2 hc3), List.drop_drop]; congr 1; omega
          · rw [List.length_drop] at hfl ⊢; omega
          · simp only [List.length_append, List.length_cons, List.length_nil]; omega
        · try dsimp only
          show s.length - (j + (remark (s.drop j) + 1)) < s.length - j
          omega
  · skip
    try simp at hc0
    obtain rfl : j = s.length := by omega
    rw [List.drop_length, docL_end] at hx
    refine t_exit ?_
    refine n_exit_then ?_
    refine n_exit_then ?_
    refine n_exit_block ?_
    refine n_then ?_
    refine t_seq ?_
    refine t_region ?_
    refine l_q rfl rfl rfl (q_assign rfl rfl) ?_
    refine l_q rfl rfl rfl (q_assign rfl rfl) ?_
    refine l_nil ?_
    refine n_then ?_
    refine t_ret ?_
    refine n_ret2 rfl rfl rfl (fun w' hw => ?_)
    -- leaf 2
    refine ⟨_, rfl, I, _, ⟨rfl, [], false, s.length, rfl, ?_, (Nat.le_refl _), rfl⟩, subC_st hw⟩
    rw [hx]
    exact ⟨rfl, rfl⟩
end Go.Tri
