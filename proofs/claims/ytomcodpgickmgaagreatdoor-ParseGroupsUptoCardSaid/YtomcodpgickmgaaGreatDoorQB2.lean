/-
  A builder of texts.
-/
import Derived.Test.YtomcodpgickmgaaGreatDoorQA7
import Derived.Test.YtomcodpgickmgaaGreatDoorTriB20
import Derived.Test.YtomcodpgickmgaaGreatDoorPLex5
import Derived.Test.YtomcodpgickmgaaGreatDoorPNum
import Derived.Test.YtomcodpgickmgaaGreatDoorPLex10
import Derived.Lib.SmallJoins
namespace Go.Tri
open Go.Proofs Go.RowKit
set_option maxRecDepth 10000 in
theorem copyCheck_calls (b : Nat) (p : Option Addr) (vb : Value) (I : Look) (F : List HA) (w0 w : World) (hp : p = none ∨ p = some ⟨b, 0, none⟩) (hw0 : St w0 I (row b 69 [.pointer p, vb] :: F) w) : Calls Tryz.prog 86 [.pointer (some ⟨b, 0, none⟩)].toArray w (fun e w' => ∃ v, e = .returned v ∧ ∃ I' H', (I = I' ∧ H' = row b 69 [.pointer (some ⟨b, 0, none⟩), vb] :: F) ∧ St w I' H' w') := by
  refine enter Tryz.func86 rfl Tryz.ntmps86 rfl (hw0.self) ?_
  refine t_seq ?_
  refine t_region ?_
  refine l_q rfl rfl rfl (q_move rfl rfl) ?_
  refine l_q rfl rfl rfl (q_nilCheck rfl rfl) ?_
  refine l_q rfl rfl rfl (q_fieldAddr rfl Tryz.underlying69 rfl rfl ti66 rfl rfl) ?_
  refine l_q rfl rfl rfl (q_load_row rfl Tryz.underlying66 rfl rfl (by rfl)) ?_
  refine l_q rfl rfl rfl (q_eql_pnil rfl (by kernel_rfl) rfl rfl) ?_
  refine l_nil ?_
  refine n_then ?_
  refine t_cond rfl (fun hc0 => ?_) (fun hc0 => ?_)
  · skip
    have hp0 : p = none := Option.isNone_iff_eq_none.1 hc0
    subst hp0
    refine t_region ?_
    refine l_q rfl rfl rfl (q_move rfl rfl) ?_
    refine l_q rfl rfl rfl (q_move rfl rfl) ?_
    refine l_q rfl rfl rfl (q_toUnsafe rfl Tryz.underlying66 Tryz.underlying142 ti69 rfl rfl rfl) ?_
    refine l_q rfl rfl rfl (quiet_extern rfl rfl rfl Tryz.func111 (by kernel_rfl) rfl (by kernel_rfl) (show Extern.find _ = some Extern.AbiNoEscape.same by kernel_rfl) (fun w => Lib.run_noEscape w _)) ?_
    refine l_q rfl rfl rfl (q_fromUnsafe rfl Tryz.underlying142 Tryz.underlying66 ti69 rfl (by kernel_rfl)) ?_
    refine l_q rfl rfl rfl (q_nilCheck rfl rfl) ?_
    refine l_q rfl rfl rfl (q_fieldAddr rfl Tryz.underlying69 rfl rfl ti66 rfl rfl) ?_
    refine l_e0 rfl rfl (e_storeS rfl ti66 rfl rfl (by first | exact ⟨rfl, rfl⟩ | assumption) rfl (by first | (simp only [List.set_cons_succ, List.set_cons_zero]; rfl) | rfl)) ?_
    rintro _ _ _ ⟨rfl, rfl⟩
    refine l_nil ?_
    refine n_end0 rfl (fun w' hw => ?_)
    -- leaf 0
    exact ⟨_, rfl, I, _, ⟨rfl, rfl⟩, (show St w I (row b 69 [.pointer (some ⟨b, 0, none⟩), vb] :: F) w' from hw)⟩
  · skip
    have hp0 : p = some ⟨b, 0, none⟩ := by rcases hp with rfl | h; cases hc0; exact h
    subst hp0
    refine t_seq ?_
    refine t_region ?_
    refine l_q rfl rfl rfl (q_move rfl rfl) ?_
    refine l_q rfl rfl rfl (q_nilCheck rfl rfl) ?_
    refine l_q rfl rfl rfl (q_fieldAddr rfl Tryz.underlying69 rfl rfl ti66 rfl rfl) ?_
    refine l_q rfl rfl rfl (q_load_row rfl Tryz.underlying66 rfl rfl (by rfl)) ?_
    refine l_q rfl rfl rfl (q_move rfl rfl) ?_
    refine l_q rfl rfl rfl (q_neq_psame rfl Tryz.underlying66 ti69 rfl rfl) ?_
    refine l_nil ?_
    refine n_then ?_
    refine t_cond rfl (fun hc1 => ?_) (fun hc1 => ?_)
    · skip
      try simp at hc1
    · skip
      try simp at hc1
      refine t_skip ?_
      refine n_end0 rfl (fun w' hw => ?_)
      -- leaf 1
      exact ⟨_, rfl, I, _, ⟨rfl, rfl⟩, (show St w I (row b 69 [.pointer (some ⟨b, 0, none⟩), vb] :: F) w' from hw)⟩
set_option maxRecDepth 10000 in
theorem writeString_calls (b : Nat) (p : Option Addr) (vb : Value) (l s : List UInt8) (I : Look) (F : List HA) (w0 w : World) (hp : p = none ∨ p = some ⟨b, 0, none⟩) (hl : l.length + s.length ≤ 140737488355000) (hw0 : St w0 I (row b 69 [.pointer p, vb] :: tvec 5 1 byC vb l :: F) w) : Calls Tryz.prog 64 [.pointer (some ⟨b, 0, none⟩), str s].toArray w (fun e w' => ∃ v, e = .returned v ∧ ∃ I' H', (v = .tuple #[.int .i64 (s.length : Int), .nilIface] ∧ I = I' ∧ ∃ vb', H' = row b 69 [.pointer (some ⟨b, 0, none⟩), vb'] :: tvec 5 1 byC vb' (l ++ s) :: F) ∧ St w I' H' w') := by
  refine enter Tryz.func64 rfl Tryz.ntmps64 rfl (hw0.self) ?_
  refine t_seq ?_
  refine t_region ?_
  refine l_q rfl rfl rfl (q_assign rfl rfl) ?_
  refine l_q rfl rfl rfl (q_assign rfl rfl) ?_
  refine l_nil ?_
  refine n_then ?_
  refine t_seq ?_
  refine t_region ?_
  refine l_q rfl rfl rfl (q_move rfl rfl) ?_
  refine l_e rfl rfl rfl (eff_call rfl rfl rfl Tryz.func86 (by kernel_rfl) rfl (fun w hw => copyCheck_calls b p vb _ _ _ w hp (picks_st1 (row b 69 [.pointer p, vb]) hw))) ?_
  rintro _ _ _ ⟨rfl, rfl⟩
  refine l_nil ?_
  refine n_then ?_
  refine t_seq ?_
  refine t_region ?_
  refine l_q rfl rfl rfl (q_move rfl rfl) ?_
  refine l_q rfl rfl rfl (q_move rfl rfl) ?_
  refine l_q rfl rfl rfl (q_nilCheck rfl rfl) ?_
  refine l_q rfl rfl rfl (q_fieldAddr rfl Tryz.underlying69 rfl rfl ti67 rfl rfl) ?_
  refine l_q rfl rfl rfl (q_load_row rfl Tryz.underlying67 rfl rfl (by rfl)) ?_
  refine l_q rfl rfl rfl (q_move rfl rfl) ?_
  refine l_e rfl rfl rfl (e_appendStr rfl Tryz.underlying67 Tryz.underlying9 ti5 rfl rfl rfl (by simp only [maxLen]; omega) (by omega)) ?_
  rintro v14 _ _ ⟨rfl, rfl⟩
  refine l_one v14 (fun hone => ?_)
  refine l_q rfl rfl rfl (q_nilCheck rfl rfl) ?_
  refine l_q rfl rfl rfl (q_fieldAddr rfl Tryz.underlying69 rfl rfl ti67 rfl rfl) ?_
  refine l_e0 rfl rfl (e_storeS rfl ti67 rfl rfl (by first | exact ⟨rfl, rfl⟩ | assumption | exact hone) rfl (by first | (simp only [List.set_cons_succ, List.set_cons_zero]; rfl) | rfl)) ?_
  rintro _ _ _ ⟨rfl, rfl⟩
  refine l_nil ?_
  refine n_then ?_
  refine t_seq ?_
  refine t_region ?_
  refine l_q rfl rfl rfl (q_move rfl rfl) ?_
  refine l_q rfl rfl rfl (q_len_str rfl Tryz.underlying9 rfl) ?_
  refine l_q rfl rfl rfl (q_assign rfl rfl) ?_
  refine l_q rfl rfl rfl (q_assign rfl rfl) ?_
  refine l_nil ?_
  refine n_then ?_
  refine t_ret ?_
  refine n_ret2 rfl rfl rfl (fun w' hw => ?_)
  -- leaf 0
  have hw2 : St w I (row b 69 [.pointer (some ⟨b, 0, none⟩), v14] :: tvec 5 1 byC v14 (l ++ s) :: F) w' := hw
  exact ⟨_, rfl, I, _, ⟨rfl, rfl, v14, rfl⟩, hw2⟩
set_option maxRecDepth 10000 in
theorem builderString_calls (b : Nat) (p : Value) (vb : Value) (l : List UInt8) (I : Look) (F : List HA) (w0 w : World) (hok : BufOk vb l) (hl : l.length ≤ 9223372036854775807) (hw0 : St w0 I (row b 69 [p, vb] :: tvec 5 1 byC vb l :: F) w) : Calls Tryz.prog 29 [.pointer (some ⟨b, 0, none⟩)].toArray w (fun e w' => ∃ v, e = .returned v ∧ ∃ I' H', (v = str l ∧ I = I' ∧ H' = F) ∧ St w I' H' w') := by
  refine enter Tryz.func29 rfl Tryz.ntmps29 rfl (hw0.self) ?_
  refine t_seq ?_
  refine t_region ?_
  refine l_q rfl rfl rfl (q_assign rfl rfl) ?_
  refine l_nil ?_
  refine n_then ?_
  refine t_seq ?_
  refine t_draw [10] [] [row b 69 [p, vb]] mo (by kernel_rfl) (fun _ _ _ _ _ h => h) ?_
  refine r_q1 0 (by kernel_rfl) rfl (Le.refl _) rfl rfl rfl (q_move rfl rfl) ?_
  refine r_q1 1 (by kernel_rfl) rfl (Le.refl _) rfl rfl rfl (q_nilCheck rfl rfl) ?_
  refine r_q1 2 (by kernel_rfl) rfl (Le.refl _) rfl rfl rfl (q_fieldAddr rfl Tryz.underlying69 rfl rfl ti67 rfl rfl) ?_
  refine r_q1 3 (by kernel_rfl) rfl (Le.refl _) rfl rfl rfl (q_load_row rfl Tryz.underlying67 rfl rfl (by rfl)) ?_
  refine r_q1 4 (by kernel_rfl) rfl (Le.refl _) rfl rfl rfl (q_sliceData (ty := 0) rfl rfl hok) ?_
  refine r_q1 5 (by kernel_rfl) rfl (Le.refl _) rfl rfl rfl (q_move rfl rfl) ?_
  refine r_q1 6 (by kernel_rfl) rfl (Le.refl _) rfl rfl rfl (q_nilCheck rfl rfl) ?_
  refine r_q1 7 (by kernel_rfl) rfl (Le.refl _) rfl rfl rfl (q_fieldAddr rfl Tryz.underlying69 rfl rfl ti67 rfl rfl) ?_
  refine r_q1 8 (by kernel_rfl) rfl (Le.refl _) rfl rfl rfl (q_load_row rfl Tryz.underlying67 rfl rfl (by rfl)) ?_
  refine r_q1 9 (by kernel_rfl) rfl (Le.refl _) rfl rfl rfl ((by first | exact q_lenV rfl Tryz.underlying67 rfl | exact q_len rfl Tryz.underlying67 rfl (Sl.len ‹_›))) ?_
  refine r_e 10 (by kernel_rfl) (by kernel_rfl) rfl (Le.refl _) rfl rfl rfl (e_unsafeString rfl Tryz.underlying89 (by kernel_rfl) rfl rfl rfl hok (by omega)) ?_
  rintro _ _ _ ⟨rfl, rfl, rfl⟩
  refine ⟨Le.refl _, .inr SubC.sub, ?_⟩
  refine r_q0 11 (by kernel_rfl) rfl (Le.refl _) rfl rfl rfl (fun _ hI => q_assign rfl rfl) ?_
  refine r_end (by kernel_rfl) ?_
  refine n_then ?_
  refine t_ret ?_
  refine n_ret1 rfl rfl (fun w' hw => ?_)
  -- leaf 0
  exact ⟨_, rfl, I, _, ⟨rfl, rfl, rfl⟩, subC_st hw⟩
end Go.Tri

/-
  Delimiters and documents.
-/
namespace Go.Tri
open Go.Proofs Go.RowKit
theorem cut_pure (l : List UInt8) (w : World) (hl : l.length ≤ 1000000000) (hG : EnvI (look w)) : Pure Tryz.prog 106 [str l, str [10]] w (.tuple #[str (l.take (remark l)), str (Lib.cut l [10]).2.1, .bool (hasB l 10)]) := by
  obtain ⟨m, hm⟩ := hG.cell
  have hsz := size_str l
  refine (Tryz.strings_Cut ⟨l.toArray⟩ ⟨#[10]⟩ m w (by omega) hm).mono fun e w' ⟨h1, n, h2⟩ => ?_
  subst h2
  refine ⟨?_, below_drewN (Below.refl _ w) n⟩
  rw [h1]
  have e0 : (⟨l.toArray⟩ : ByteArray).data.toList = l := by simp
  have e9 : (⟨#[10]⟩ : ByteArray).data.toList = [10] := rfl
  rw [e0, e9]
  have e1 : (Lib.cut l [10]).1 = l.take (remark l) := by
    unfold Lib.cut remark
    rw [index_one]
    split
    · rfl
    · rw [List.take_length]
  have e2 : (Lib.cut l [10]).2.2 = hasB l 10 := by
    unfold Lib.cut
    rw [index_one, ← indexByte_has]
    split
    · rename_i h; rw [decide_eq_true h]
    · rename_i h; rw [decide_eq_false h]
  rw [e1, e2]; rfl
theorem trimLeft_pure (l : List UInt8) (w : World) : Pure Tryz.prog 107 [str l, str [9]] w (str (Lib.trimLeftB l 9)) := by
  refine (Tryz.strings_TrimLeft_one ⟨l.toArray⟩ 9 (by decide) w).mono fun e w' ⟨h1, h2⟩ => ?_
  subst h2
  exact ⟨h1, Below.refl _ _⟩
def DRel (i : Nat) (r : DocR) (dd : List UInt8) (ok : Bool) (i' : Nat) : Prop := match r with
  | some x => ok = true ∧ dd = x.1 ∧ i' = i + x.2
  | none => ok = false ∧ dd = []
theorem DRel.t {i i' : Nat} {r : DocR} {dd : List UInt8} {ok : Bool} (h : DRel i r dd ok i') (hok : ok = true) : ∃ k, r = some (dd, k) ∧ i' = i + k := by
  cases r with
  | some x => exact ⟨x.2, by rw [h.2.1], h.2.2⟩
  | none => rw [h.1] at hok; cases hok
theorem DRel.f {i i' : Nat} {r : DocR} {dd : List UInt8} {ok : Bool} (h : DRel i r dd ok i') (hok : ok = false) : r = none := by
  cases r with
  | some x => rw [h.1] at hok; cases hok
  | none => rfl
def DocC (f : FuncId) (T : TypeId) (b : Nat) (s : List UInt8) (i : Nat) (args : List Value) (r : DocR) (I : Look) (F : List HA) (w : World) : Prop :=
  Calls Tryz.prog f (.pointer (some ⟨b, 0, none⟩) :: args).toArray w (fun e w' => ∃ v, e = .returned v ∧ ∃ I' H', (I = I' ∧ ∃ dd ok i', v = .tuple #[str dd, .bool ok] ∧ DRel i r dd ok i' ∧ i' ≤ s.length ∧ H' = row b T (scC s i' 0 0) :: F) ∧ St w I' H' w')
set_option maxRecDepth 10000 in
theorem bare_pure (s : List UInt8) (w : World) (hs : s.length ≤ 1000000000) : Pure Tryz.prog 80 [str s] w (.tuple #[str (bareP s), .bool (anyOf s quoteSet)]) := by
  refine enter Tryz.func80 rfl Tryz.ntmps80 rfl (St.start w (look w) (Le.refl _)) ?_
  refine t_seq ?_
  refine t_region ?_
  refine l_q rfl rfl rfl (q_assign rfl rfl) ?_
  refine l_q rfl rfl rfl (q_assign rfl rfl) ?_
  refine l_nil ?_
  refine n_then ?_
  refine t_seq ?_
  refine t_region ?_
  refine l_q rfl rfl rfl (q_assign rfl rfl) ?_
  refine l_nil ?_
  refine n_then ?_
  refine t_seq ?_
  refine t_seq ?_
  refine t_region ?_
  refine l_q rfl rfl rfl (q_assign rfl rfl) ?_
  refine l_nil ?_
  refine n_then ?_
  refine t_block ?_
  refine t_loopE (ι := Nat × Value × List UInt8) (fun zz => zz.1 ≤ s.length + 1 ∧ bareP s = zz.2.2 ++ bareP (s.drop zz.1) ∧ zz.2.2.length ≤ zz.1) (fun zz => s.length + 1 - zz.1) (fun zz => [(5, .int .i64 (zz.1 : Int)), (4, zz.2.1)]) [(0, _), (2, _), (3, _)] (fun zz => look w) (fun zz => [tvec 5 1 byC zz.2.1 zz.2.2]) (0, .slice none 0 0, []) ?_ (sub_cons rfl (sub_cons rfl sub_nil)) (sub_cons rfl (sub_cons rfl (sub_cons rfl sub_nil))) (fun _ h => st_nilT 5 1 byC h) ?_
  · try dsimp only
    exact ⟨by omega, by simp, Nat.le_refl _⟩
  rintro ⟨i, v, l⟩ ⟨hi, hb, hl⟩
  try dsimp only at *
  refine t_seq ?_
  refine t_seq ?_
  refine t_region ?_
  refine l_q rfl rfl rfl (q_move rfl rfl) ?_
  refine l_q rfl rfl rfl (q_move rfl rfl) ?_
  refine l_q rfl rfl rfl (q_len_str rfl Tryz.underlying9 rfl) ?_
  refine l_q rfl rfl rfl (q_lss rfl rfl rfl) ?_
  refine l_nil ?_
  refine n_then ?_
  refine t_cond rfl (fun hc0 => ?_) (fun hc0 => ?_)
  · skip
    try simp at hc0
    refine t_skip ?_
    refine n_then ?_
    refine t_seq ?_
    refine t_block ?_
    refine t_seq ?_
    refine t_region ?_
    refine l_q rfl rfl rfl (q_move rfl rfl) ?_
    refine l_q rfl rfl rfl (q_move rfl rfl) ?_
    refine l_q rfl rfl rfl ((by first | exact q_index_strN rfl Tryz.underlying9 rfl rfl (by omega) | exact q_index_str rfl Tryz.underlying9 rfl rfl (by omega))) ?_
    refine l_q rfl rfl rfl (q_assign rfl rfl) ?_
    refine l_nil ?_
    refine n_then ?_
    refine t_block ?_
    refine t_seq ?_
    refine t_qreg ?_
    refine s_q rfl rfl rfl (q_move rfl rfl) ?_
    refine s_q rfl rfl rfl (q_eql_u8c rfl rfl rfl rfl) ?_
    refine s_q rfl rfl rfl (q_move rfl rfl) ?_
    refine s_or2 2 2 23 26 25 _ _ rfl rfl rfl rfl rfl rfl (fun h26 => by
        try simp at h26
        refine s_g rfl rfl rfl rfl rfl rfl (q_move rfl rfl) ?_
        refine s_g rfl rfl rfl rfl rfl rfl (q_eql_u8c rfl rfl rfl rfl) ?_
        exact s_val rfl
      ) (wanted_n rfl) rfl rfl rfl ?_
    refine s_q rfl rfl rfl (q_assign rfl rfl) ?_
    refine s_done ?_
    refine n_then ?_
    refine t_cond rfl (fun hc1 => ?_) (fun hc1 => ?_)
    · skip
      have hq : nth s i 0 = 39 ∨ nth s i 0 = 34 := by have h1 : (decide (nth s i 0 = 39) || decide (nth s i 0 = 34)) = true := hc1; simpa using h1
      refine t_skip ?_
      refine n_block ?_
      refine n_block ?_
      refine n_then ?_
      refine t_region ?_
      refine l_q rfl rfl rfl (q_move rfl rfl) ?_
      refine l_q rfl rfl rfl (q_add64 rfl rfl rfl (by omega)) ?_
      refine l_q rfl rfl rfl (q_assign rfl rfl) ?_
      refine l_nil ?_
      refine n_roundE ((i + 1, v, l)) ?_ ?_ (sub_cons rfl (sub_cons rfl sub_nil)) (sub_cons rfl (sub_cons rfl (sub_cons rfl sub_nil))) (fun _ h => by try dsimp only; exact subC_st h)
      · try dsimp only
        exact ⟨by omega, by rw [hb, bare_q (by omega) hq], by omega⟩
      · try dsimp only
        show s.length + 1 - (i + 1) < s.length + 1 - i; omega
    · skip
      have hq : ¬ (nth s i 0 = 39 ∨ nth s i 0 = 34) := by have h1 : (decide (nth s i 0 = 39) || decide (nth s i 0 = 34)) = false := hc1; simpa using h1
      refine t_seq ?_
      refine t_region ?_
      refine l_q rfl rfl rfl (q_move rfl rfl) ?_
      refine l_q rfl rfl rfl (q_eql_u8c rfl rfl rfl rfl) ?_
      refine l_q rfl rfl rfl (q_assign rfl rfl) ?_
      refine l_nil ?_
      refine n_then ?_
      refine t_cond rfl (fun hc2 => ?_) (fun hc2 => ?_)
      · skip
        simp only [decide_eq_true_eq, decide_eq_false_iff_not] at hc2
        have hc2 : nth s i 0 = 92 := hc2
        refine t_seq ?_
        refine t_region ?_
        refine l_q rfl rfl rfl (q_move rfl rfl) ?_
        refine l_q rfl rfl rfl (q_add64 rfl rfl rfl (by omega)) ?_
        refine l_q rfl rfl rfl (q_assign rfl rfl) ?_
        refine l_nil ?_
        refine n_then ?_
        refine t_seq ?_
        refine t_region ?_
        refine l_q rfl rfl rfl (q_move rfl rfl) ?_
        refine l_q rfl rfl rfl (q_move rfl rfl) ?_
        refine l_q rfl rfl rfl (q_len_str rfl Tryz.underlying9 rfl) ?_
        refine l_q rfl rfl rfl (q_lss rfl rfl rfl) ?_
        refine l_nil ?_
        refine n_then ?_
        refine t_cond rfl (fun hc3 => ?_) (fun hc3 => ?_)
        · skip
          try simp at hc3
          refine t_region ?_
          refine l_q rfl rfl rfl (q_move rfl rfl) ?_
          refine l_q rfl rfl rfl (q_move rfl rfl) ?_
          refine l_q rfl rfl rfl (q_move rfl rfl) ?_
          refine l_q rfl rfl rfl ((by first | exact q_index_strN rfl Tryz.underlying9 rfl rfl (by omega) | exact q_index_str rfl Tryz.underlying9 rfl rfl (by omega))) ?_
          refine l_e rfl rfl rfl (e_buildSlice1 rfl Tryz.underlying67 ti5 rfl rfl rfl (by first | exact One.cells (by assumption) | rfl) rfl) ?_
          rintro _ _ _ ⟨b40, rfl, rfl, rfl⟩
          refine l_e rfl rfl rfl (e_appendT (f := byC) (c := nth s (i + 1) 0) rfl Tryz.underlying67 ti5 rfl rfl rfl rfl rfl rfl rfl (by first | exact byC_ones _ | exact chC_ones _ | exact pcC_ones _ | simp [Value.oneCell', str, u8] | exact ones1 (by assumption)) (by simp only [maxLen]; omega) (by omega)) ?_
          rintro v41 _ _ ⟨rfl, rfl⟩
          refine l_q rfl rfl rfl (q_assign rfl rfl) ?_
          refine l_nil ?_
          refine n_block ?_
          refine n_block ?_
          refine n_then ?_
          refine t_region ?_
          refine l_q rfl rfl rfl (q_move rfl rfl) ?_
          refine l_q rfl rfl rfl (q_add64 rfl rfl rfl (by omega)) ?_
          refine l_q rfl rfl rfl (q_assign rfl rfl) ?_
          refine l_nil ?_
          refine n_roundE ((i + 2, v41, l ++ [nth s (i + 1) 0])) ?_ ?_ (sub_cons rfl (sub_cons rfl sub_nil)) (sub_cons rfl (sub_cons rfl (sub_cons rfl sub_nil))) (fun _ h => by try dsimp only; exact subC_st h)
          · try dsimp only
            refine ⟨by omega, by rw [hb, bare_esc (by omega) hc2]; simp, by simp; omega⟩
          · try dsimp only
            show s.length + 1 - (i + 2) < s.length + 1 - i; omega
        · skip
          try simp at hc3
          refine t_skip ?_
          refine n_block ?_
          refine n_block ?_
          refine n_then ?_
          refine t_region ?_
          refine l_q rfl rfl rfl (q_move rfl rfl) ?_
          refine l_q rfl rfl rfl (q_add64 rfl rfl rfl (by omega)) ?_
          refine l_q rfl rfl rfl (q_assign rfl rfl) ?_
          refine l_nil ?_
          refine n_roundE ((i + 2, v, l)) ?_ ?_ (sub_cons rfl (sub_cons rfl sub_nil)) (sub_cons rfl (sub_cons rfl (sub_cons rfl sub_nil))) (fun _ h => by try dsimp only; exact subC_st h)
          · try dsimp only
            refine ⟨by omega, by rw [hb, bare_end (by omega) (by omega) hc2, List.drop_of_length_le (by omega), bare_nil], by omega⟩
          · try dsimp only
            show s.length + 1 - (i + 2) < s.length + 1 - i; omega
      · skip
        simp only [decide_eq_true_eq, decide_eq_false_iff_not] at hc2
        have hc2 : ¬ nth s i 0 = 92 := hc2
        refine t_region ?_
        refine l_q rfl rfl rfl (q_move rfl rfl) ?_
        refine l_q rfl rfl rfl (q_move rfl rfl) ?_
        refine l_e rfl rfl rfl (e_buildSlice1 rfl Tryz.underlying67 ti5 rfl rfl rfl (by first | exact One.cells (by assumption) | rfl) rfl) ?_
        rintro _ _ _ ⟨b18, rfl, rfl, rfl⟩
        refine l_e rfl rfl rfl (e_appendT (f := byC) (c := nth s i 0) rfl Tryz.underlying67 ti5 rfl rfl rfl rfl rfl rfl rfl (by first | exact byC_ones _ | exact chC_ones _ | exact pcC_ones _ | simp [Value.oneCell', str, u8] | exact ones1 (by assumption)) (by simp only [maxLen]; omega) (by omega)) ?_
        rintro v19 _ _ ⟨rfl, rfl⟩
        refine l_q rfl rfl rfl (q_assign rfl rfl) ?_
        refine l_nil ?_
        refine n_block ?_
        refine n_block ?_
        refine n_then ?_
        refine t_region ?_
        refine l_q rfl rfl rfl (q_move rfl rfl) ?_
        refine l_q rfl rfl rfl (q_add64 rfl rfl rfl (by omega)) ?_
        refine l_q rfl rfl rfl (q_assign rfl rfl) ?_
        refine l_nil ?_
        refine n_roundE ((i + 1, v19, l ++ [nth s i 0])) ?_ ?_ (sub_cons rfl (sub_cons rfl sub_nil)) (sub_cons rfl (sub_cons rfl (sub_cons rfl sub_nil))) (fun _ h => by try dsimp only; exact subC_st h)
        · try dsimp only
          refine ⟨by omega, by rw [hb, bare_c (by omega) hq hc2]; simp, by simp; omega⟩
        · try dsimp only
          show s.length + 1 - (i + 1) < s.length + 1 - i; omega
  · skip
    try simp at hc0
    rw [List.drop_of_length_le (by omega), bare_nil, List.append_nil] at hb
    refine t_exit ?_
    refine n_exit_then ?_
    refine n_exit_then ?_
    refine n_exit_block ?_
    refine n_then ?_
    refine t_seq ?_
    refine t_qdraw mo (by kernel_rfl) (fun _ _ _ _ _ h => h) ?_
    refine s_q rfl rfl rfl (q_move rfl rfl) ?_
    refine s_q rfl rfl rfl (q_bytes_str rfl Tryz.underlying67 Tryz.underlying9 Tryz.underlying5 rfl) ?_
    refine s_q rfl rfl rfl (q_move rfl rfl) ?_
    refine s_q rfl rfl rfl (quiet_call rfl rfl rfl Tryz.func105 (by kernel_rfl) rfl ((fun w _ => containsAny_pure s quoteSet w hs (by decide) (by decide) (by unfold Ascii quoteSet; decide)))) ?_
    refine s_q rfl rfl rfl (q_assign rfl rfl) ?_
    refine s_q rfl rfl rfl (q_assign rfl rfl) ?_
    refine s_done ?_
    refine n_then ?_
    refine t_ret ?_
    refine n_ret2 rfl rfl rfl (fun w' hw => ?_)
    -- leaf 0
    refine ⟨?_, hw.below⟩
    rw [hb]
set_option maxRecDepth 10000 in
theorem document_calls (b : Nat) (s d : List UInt8) (strip : Bool) (i : Nat) (I : Look) (F : List HA) (w0 w : World) (hs : s.length ≤ 1000000) (hi : i ≤ s.length) (hG : EnvI I) (hw0 : St w0 I (row b 130 (scC s i 0 0) :: F) w) : DocC 81 130 b s i [str d, .bool strip] (docP strip d (s.drop i)) I F w := by
  refine enter Tryz.func81 rfl Tryz.ntmps81 rfl (hw0.self) ?_
  refine t_seq ?_
  refine t_region ?_
  refine l_q rfl rfl rfl (q_assign rfl rfl) ?_
  refine l_q rfl rfl rfl (q_assign rfl rfl) ?_
  refine l_nil ?_
  refine n_then ?_
  refine t_seq ?_
  refine t_region ?_
  refine l_e rfl rfl rfl (e_alloc rfl ti69 rfl) ?_
  rintro _ _ _ ⟨b8, rfl, rfl, rfl⟩
  refine l_nil ?_
  refine n_then ?_
  refine t_seq ?_
  refine t_block ?_
  refine t_loopE (ι := Nat × Nat × Option Addr × Value × List UInt8) (fun zz => i ≤ zz.1 ∧ zz.1 ≤ s.length ∧ docP strip d (s.drop i) = DocR.on zz.2.2.2.2 (zz.1 - i) (docL strip d zz.2.1 (s.drop zz.1)) ∧ (s.drop zz.1).length ≤ zz.2.1 ∧ zz.2.2.2.2.length ≤ zz.1 ∧ (zz.2.2.1 = none ∨ zz.2.2.1 = some ⟨b8, 0, none⟩) ∧ BufOk zz.2.2.2.1 zz.2.2.2.2) (fun zz => s.length - zz.1) (fun zz => []) [(0, _), (1, _), (2, _), (8, _)] (fun zz => I) (fun zz => (row b8 69 [.pointer zz.2.2.1, zz.2.2.2.1] :: tvec 5 1 byC zz.2.2.2.1 zz.2.2.2.2 :: row b 130 (scC s zz.1 0 0) :: F)) (i, (s.drop i).length, none, .slice none 0 0, []) ?_ (sub_nil) (sub_cons rfl (sub_cons rfl (sub_cons rfl (sub_cons rfl sub_nil)))) (fun _ h => subC_st (st_nilT 5 1 byC h)) ?_
  · try dsimp only
    exact ⟨Nat.le_refl _, hi, by rw [Nat.sub_self, DocR.on_zero]; rfl, Nat.le_refl _, Nat.zero_le _, .inl rfl, .inl rfl⟩
  rintro ⟨j, g, p, vb, acc⟩ ⟨hj1, hj2, hx, hfl, hal, hp, hok⟩
  try dsimp only at *
  refine t_seq ?_
  refine t_seq ?_
  refine t_qdraw mo (by kernel_rfl) (fun _ _ _ _ _ h => h) ?_
  refine s_q rfl rfl rfl (q_move rfl rfl) ?_
  refine s_q rfl rfl rfl (q_nilCheck rfl rfl) ?_
  refine s_q rfl rfl rfl (q_fieldAddr rfl Tryz.underlying130 rfl rfl ti3 rfl rfl) ?_
  refine s_q rfl rfl rfl (q_load_row rfl Tryz.underlying3 rfl rfl (by rfl)) ?_
  refine s_q rfl rfl rfl (q_move rfl rfl) ?_
  refine s_q rfl rfl rfl (q_nilCheck rfl rfl) ?_
  refine s_q rfl rfl rfl (q_fieldAddr rfl Tryz.underlying130 rfl rfl ti9 rfl rfl) ?_
  refine s_q rfl rfl rfl (q_load_row rfl Tryz.underlying9 rfl rfl (by rfl)) ?_
  refine s_q rfl rfl rfl (q_len_str rfl Tryz.underlying9 rfl) ?_
  refine s_q rfl rfl rfl (q_lss rfl rfl rfl) ?_
  refine s_done ?_
  refine n_then ?_
  refine t_cond rfl (fun hc0 => ?_) (fun hc0 => ?_)
  · skip
    try simp at hc0
    have hj : j < s.length := by omega
    have hst := doc_step hx (drop_ne hj) hfl
    have hrl := remark_le (s.drop j)
    have hdl := docLine_len strip (s.drop j)
    rw [List.length_drop] at hrl
    refine t_skip ?_
    refine n_then ?_
    refine t_block ?_
    refine t_seq ?_
    refine t_qdraw mo (by kernel_rfl) (fun _ _ _ _ _ h => h) ?_
    refine s_q rfl rfl rfl (q_move rfl rfl) ?_
    refine s_q rfl rfl rfl (q_nilCheck rfl rfl) ?_
    refine s_q rfl rfl rfl (q_fieldAddr rfl Tryz.underlying130 rfl rfl ti9 rfl rfl) ?_
    refine s_q rfl rfl rfl (q_load_row rfl Tryz.underlying9 rfl rfl (by rfl)) ?_
    refine s_q rfl rfl rfl (q_move rfl rfl) ?_
    refine s_q rfl rfl rfl (q_nilCheck rfl rfl) ?_
    refine s_q rfl rfl rfl (q_fieldAddr rfl Tryz.underlying130 rfl rfl ti3 rfl rfl) ?_
    refine s_q rfl rfl rfl (q_load_row rfl Tryz.underlying3 rfl rfl (by rfl)) ?_
    refine s_q rfl rfl rfl (q_slice_str_from rfl Tryz.underlying9 rfl rfl (by omega)) ?_
    refine s_q rfl rfl rfl (quiet_call rfl rfl rfl Tryz.func106 (by kernel_rfl) rfl ((fun w hw => cut_pure (s.drop j) w (by rw [List.length_drop]; omega) (hG.mono hw.imm)))) ?_
    refine s_q rfl rfl rfl (q_move rfl rfl) ?_
    refine s_q rfl rfl rfl (q_extract rfl rfl rfl) ?_
    refine s_q rfl rfl rfl (q_extract rfl rfl rfl) ?_
    refine s_q rfl rfl rfl (q_extract rfl rfl rfl) ?_
    refine s_q rfl rfl rfl (q_assign rfl rfl) ?_
    refine s_q rfl rfl rfl (q_assign rfl rfl) ?_
    refine s_q rfl rfl rfl (q_assign rfl rfl) ?_
    refine s_done ?_
    refine n_then ?_
    refine t_seq ?_
    have htl : ((s.drop j).take (remark (s.drop j))).length = remark (s.drop j) := by rw [List.length_take, List.length_drop]; omega
    refine t_region ?_
    refine l_q rfl rfl rfl (q_move rfl rfl) ?_
    refine l_q rfl rfl rfl (q_move rfl rfl) ?_
    refine l_q rfl rfl rfl (q_len_str rfl Tryz.underlying9 rfl) ?_
    rw [htl]
    refine l_q rfl rfl rfl (q_add64 rfl rfl rfl (by omega)) ?_
    refine l_e rfl rfl rfl (eff_call rfl rfl rfl Tryz.func101 (by kernel_rfl) rfl (fun w hw => skip_calls b s j (remark (s.drop j) + 1) 0 0 _ _ _ w (by omega) (by omega) (by omega) (picks_st1 (row b 130 (scC s j 0 0)) hw))) ?_
    rintro _ _ _ ⟨rfl, rfl, rfl⟩
    refine l_nil ?_
    refine n_then ?_
    refine t_cutE (ι := Unit) (fun zz => True) (fun zz => [(9, str (docLine strip (s.drop j)))]) [(0, _), (1, _), (2, _), (8, _), (21, _), (11, _)] (fun zz => I) (fun zz => (row b 130 (scC s (min (j + (remark (s.drop j) + 1)) s.length) 0 0) :: row b8 69 [.pointer p, vb] :: tvec 5 1 byC vb acc :: F)) (sub_cons rfl (sub_cons rfl (sub_cons rfl (sub_cons rfl (sub_cons rfl (sub_cons rfl sub_nil)))))) ?_ ?_
    · skip
      refine t_seq ?_
      refine t_region ?_
      refine l_q rfl rfl rfl (q_move rfl rfl) ?_
      refine l_nil ?_
      refine n_then ?_
      refine t_cond rfl (fun hc1 => ?_) (fun hc1 => ?_)
      · skip
        refine t_region ?_
        refine l_q rfl rfl rfl (q_move rfl rfl) ?_
        refine l_q rfl rfl rfl (quiet_call rfl rfl rfl Tryz.func107 (by kernel_rfl) rfl ((fun w _ => trimLeft_pure ((s.drop j).take (remark (s.drop j))) w))) ?_
        refine l_q rfl rfl rfl (q_assign rfl rfl) ?_
        refine l_nil ?_
        refine n_cut (()) ?_ (sub_cons' rfl (by rw [docLine, if_pos hc1]) (sub_nil)) (sub_cons rfl (sub_cons rfl (sub_cons rfl (sub_cons rfl (sub_cons rfl (sub_cons rfl sub_nil)))))) (fun _ h => by try dsimp only; exact subC_st h)
        · try dsimp only
          all_goals trivial
      · skip
        refine t_skip ?_
        refine n_cut (()) ?_ (sub_cons' rfl (by rw [docLine, if_neg (by rw [hc1]; simp)]; rfl) (sub_nil)) (sub_cons rfl (sub_cons rfl (sub_cons rfl (sub_cons rfl (sub_cons rfl (sub_cons rfl sub_nil)))))) (fun _ h => by try dsimp only; exact subC_st h)
        · try dsimp only
          all_goals trivial
    rintro u _
    try dsimp only at *
    refine t_seq ?_
    refine t_seq ?_
    refine t_region ?_
    refine l_q rfl rfl rfl (q_move rfl rfl) ?_
    refine l_q rfl rfl rfl (q_move rfl rfl) ?_
    refine l_q rfl rfl rfl (q_eql_str rfl rfl rfl) ?_
    refine l_nil ?_
    refine n_then ?_
    refine t_cond rfl (fun hc2 => ?_) (fun hc2 => ?_)
    · skip
      have hc2 := of_decide_eq_true hc2
      have hres := hst.1 hc2
      refine t_seq ?_
      refine t_region ?_
      refine l_e rfl rfl rfl (eff_call rfl rfl rfl Tryz.func29 (by kernel_rfl) rfl (fun w hw => builderString_calls b8 (.pointer p) vb acc _ _ _ w hok (by omega) (picks_st2 (row b8 69 [.pointer p, vb]) (tvec 5 1 byC vb acc) hw))) ?_
      rintro _ _ _ ⟨rfl, rfl, rfl⟩
      refine l_q rfl rfl rfl (q_assign rfl rfl) ?_
      refine l_q rfl rfl rfl (q_assign rfl rfl) ?_
      refine l_nil ?_
      refine n_then ?_
      refine t_ret ?_
      refine n_ret_then ?_
      refine n_ret_block ?_
      refine n_ret_then ?_
      refine n_ret_block ?_
      refine n_ret_then ?_
      refine n_ret2 rfl rfl rfl (fun w' hw => ?_)
      -- leaf 0
      refine ⟨_, rfl, I, _, ⟨rfl, acc, true, min (j + (remark (s.drop j) + 1)) s.length, rfl, ?_, (by omega), rfl⟩, subC_st hw⟩
      rw [hres]
      refine ⟨rfl, rfl, ?_⟩
      show _ = i + (j - i + min (remark (s.drop j) + 1) (s.drop j).length)
      rw [List.length_drop]
      omega
    · skip
      have hc2 := of_decide_eq_false hc2
      have hst2 := hst.2 hc2
      refine t_skip ?_
      refine n_then ?_
      refine t_seq ?_
      refine t_seq ?_
      refine t_region ?_
      refine l_q rfl rfl rfl (q_move rfl rfl) ?_
      refine l_q rfl rfl rfl (q_not rfl rfl) ?_
      refine l_nil ?_
      refine n_then ?_
      refine t_cond rfl (fun hc3 => ?_) (fun hc3 => ?_)
      · skip
        have hc3 : hasB (s.drop j) 10 = false := by simpa using hc3
        have hres := hst2.1 hc3
        refine t_exit ?_
        refine n_exit_then ?_
        refine n_exit_other rfl ?_
        refine n_exit_then ?_
        refine n_exit_block ?_
        refine n_then ?_
        refine t_seq ?_
        refine t_region ?_
        refine l_q rfl rfl rfl (q_assign rfl rfl) ?_
        refine l_q rfl rfl rfl (q_assign rfl rfl) ?_
        refine l_nil ?_
        refine n_then ?_
        refine t_ret ?_
        refine n_ret2 rfl rfl rfl (fun w' hw => ?_)
        -- leaf 1
        refine ⟨_, rfl, I, _, ⟨rfl, [], false, min (j + (remark (s.drop j) + 1)) s.length, rfl, ?_, (by omega), rfl⟩, subC_st hw⟩
        rw [hres]
        exact ⟨rfl, rfl⟩
      · skip
        have hc3 : hasB (s.drop j) 10 = true := by simpa using hc3
        have hrem := (remark_has (l := s.drop j)).1 hc3
        rw [List.length_drop] at hrem
        refine t_skip ?_
        refine n_then ?_
        refine t_region ?_
        refine l_q rfl rfl rfl (q_move rfl rfl) ?_
        refine l_q rfl rfl rfl (q_cat rfl rfl rfl (by first | omega | (simp only [List.length_append, List.length_cons, List.length_nil, List.length_take, List.length_drop]; omega))) ?_
        refine l_e rfl rfl rfl (eff_call rfl rfl rfl Tryz.func64 (by kernel_rfl) rfl (fun w hw => writeString_calls b8 p vb acc (docLine strip (s.drop j) ++ [10]) _ _ _ w hp (by simp only [List.length_append, List.length_cons, List.length_nil]; omega) (picks_st2 (row b8 69 [.pointer p, vb]) (tvec 5 1 byC vb acc) hw))) ?_
        rintro _ _ _ ⟨rfl, rfl, vb2, rfl⟩
        refine l_nil ?_
        refine n_block ?_
        refine n_roundE ((j + (remark (s.drop j) + 1), g - 1, some ⟨b8, 0, none⟩, vb2, acc ++ (docLine strip (s.drop j) ++ [10]))) ?_ ?_ (sub_nil) (sub_cons rfl (sub_cons rfl (sub_cons rfl (sub_cons rfl sub_nil)))) (fun _ h => by dsimp only; rw [show min (j + (remark (s.drop j) + 1)) s.length = j + (remark (s.drop j) + 1) by omega] at h; exact subC_st h)
        · try dsimp only
          refine ⟨by omega, by omega, ?_, ?_, ?_, .inr rfl, .inr (by simp)⟩
          · rw [(hst2.2 hc3), List.drop_drop]; congr 1; omega
          · rw [List.length_drop] at hfl ⊢; omega
          · simp only [List.length_append, List.length_cons, List.length_nil]; omega
        · try dsimp only
          show s.length - (j + (remark (s.drop j) + 1)) < s.length - j
          omega
  · skip
    try simp at hc0
    obtain rfl : j = s.length := by omega
    rw [List.drop_length, docL_end] at hx
    refine t_exit ?_
    refine n_exit_then ?_
    refine n_exit_then ?_
    refine n_exit_block ?_
    refine n_then ?_
    refine t_seq ?_
    refine t_region ?_
    refine l_q rfl rfl rfl (q_assign rfl rfl) ?_
    refine l_q rfl rfl rfl (q_assign rfl rfl) ?_
    refine l_nil ?_
    refine n_then ?_
    refine t_ret ?_
    refine n_ret2 rfl rfl rfl (fun w' hw => ?_)
    -- leaf 2
    refine ⟨_, rfl, I, _, ⟨rfl, [], false, s.length, rfl, ?_, (Nat.le_refl _), rfl⟩, subC_st hw⟩
    rw [hx]
    exact ⟨rfl, rfl⟩
end Go.Tri

/-
  A line.
-/
namespace Go.Tri
open Go.Proofs Go.RowKit
theorem tok_end {s : List UInt8} {i j g : Nat} {l : List Tok} {r : LnR} {t : Tok} {ok : Bool} {i' a' e' : Nat} (hx : r = (lineL g j (s.drop j)).app l (j - i)) (hf : (s.drop j).length < g) (hij : i ≤ j) (h : TRel j (tokP (s.drop j)) t ok i' a' e') (hok : ok = false) : LnE i r l i' a' e' := by
  have hs := line_step hx hf
  have hfit := tokP_fit (s.drop j)
  cases ht : tokP (s.drop j) with
  | stop k =>
    rw [ht] at h
    rw [hs.1 k ht]
    exact ⟨rfl, by rw [h.2.2.1]; omega, h.2.2.2.1, h.2.2.2.2⟩
  | bad a e =>
    rw [ht] at h hfit
    rw [hs.2.1 a e ht]
    exact ⟨hfit, h.2.2.1, h.2.2.2⟩
  | tok off k kind text =>
    rw [ht] at h
    rw [h.2.1] at hok; cases hok
theorem tok_go {s : List UInt8} {i j g : Nat} {l : List Tok} {r : LnR} {t : Tok} {ok : Bool} {i' a' e' : Nat} (hx : r = (lineL g j (s.drop j)).app l (j - i)) (hf : (s.drop j).length < g) (hij : i ≤ j) (h : TRel j (tokP (s.drop j)) t ok i' a' e') (hok : ok = true) :
    j < i' ∧ a' = 0 ∧ e' = 0 ∧ (t.kind = 3 → LnE i r (l ++ [t]) i' 0 0) ∧ (¬ t.kind = 3 → r = (lineL (g - 1) i' (s.drop i')).app (l ++ [t]) (i' - i)) := by
  have hs := line_step hx hf
  have hfit := tokP_fit (s.drop j)
  cases ht : tokP (s.drop j) with
  | stop k => rw [ht] at h; rw [h.2.1] at hok; cases hok
  | bad a e => rw [ht] at h; rw [h.2.1] at hok; cases hok
  | tok off k kind text =>
    rw [ht] at h hfit
    obtain ⟨h1, h2, h3, h4, h5⟩ := h
    obtain ⟨s1, s2⟩ := hs.2.2 off k kind text ht
    have hk : 1 ≤ k := hfit.1
    refine ⟨by omega, h4, h5, fun hk3 => ?_, fun hk3 => ?_⟩
    · rw [s1 (by rw [h1] at hk3; exact hk3), ← h1]
      exact ⟨rfl, by rw [h3]; omega, rfl, rfl⟩
    · rw [s2 (by rw [h1] at hk3; exact hk3), ← h1, h3, List.drop_drop]
      congr 1; omega
theorem lineAt_eq {s : List UInt8} {i : Nat} {l : List Tok} {j a e : Nat} (h : LnE i (lineL (s.length + 1) i (s.drop i)) l j a e) : (e ≠ 0 → lineAt s i = ⟨[], 0, a, e⟩) ∧ (e = 0 → (∀ p, docsL s none l j = .bad p → lineAt s i = ⟨[], 0, p, 54⟩) ∧ ∀ ds q, docsL s none l j = .ok ds q → lineAt s i = ⟨ds, q, 0, 0⟩) := by
  unfold lineAt
  refine ⟨fun he => ?_, fun he => ?_⟩
  · rw [h.bad he]
  · obtain ⟨k, h1, h2, _⟩ := h.ok he
    exact ⟨fun p hp => by rw [h2] at hp; simp only [h1, hp], fun ds q hp => by rw [h2] at hp; simp only [h1, hp]⟩
theorem lineL_texts : ∀ (f p : Nat) (l : List UInt8) (ts : List Tok) (k : Nat), lineL f p l = .ok ts k → ∀ t ∈ ts, t.text.length ≤ l.length
  | 0, p, l, ts, k, h => by cases h; simp
  | f + 1, p, l, ts, k, h => by
    rw [lineL] at h
    have hfit := tokP_fit l
    cases ht : tokP l with
    | stop j => simp only [ht] at h; cases h; simp
    | bad a e => simp only [ht] at h; cases h
    | tok off j kind text =>
      simp only [ht] at h
      rw [ht] at hfit
      split at h
      · cases h
        intro t hm
        rw [List.mem_singleton] at hm
        subst hm; exact hfit.2.2.2
      · cases hr : lineL f (p + j) (l.drop j) with
        | bad a e => rw [hr] at h; cases h
        | ok ts' k' =>
          rw [hr] at h
          cases h
          intro t hm
          rcases List.mem_cons.1 hm with rfl | hm
          · exact hfit.2.2.2
          · have := lineL_texts f _ _ _ _ hr t hm
            rw [List.length_drop] at this
            omega
theorem lineP_at {s : List UInt8} {i : Nat} (h1 : s.length ≤ 65536) (h2 : i ≤ s.length) : lineP s (i : Int) = lineAt s i := by
  unfold lineP
  rw [if_neg (by omega), if_neg (by omega)]; rfl
set_option maxRecDepth 10000 in
theorem line_calls (s : List UInt8) (at' : Int) (I : Look) (F : List HA) (w0 w : World) (hs : s.length ≤ 1000000000) (hG : EnvI I) (hw0 : St w0 I F w) : Calls Tryz.prog 53 [str s, .int .i64 at'].toArray w (fun e w' => ∃ v, e = .returned v ∧ ∃ I' H', (Le I I' ∧ F = H' ∧ ∃ vl, v = .tuple #[vl, .int .i64 ((lineP s at').fin : Int), .int .i64 ((lineP s at').place : Int), .int .i64 ((lineP s at').err : Int)] ∧ Sl I' 5 vl ((lineP s at').toks.map tokC)) ∧ St w I' H' w') := by
  refine enter Tryz.func53 rfl Tryz.ntmps53 rfl (hw0.self) ?_
  refine t_seq ?_
  refine t_region ?_
  refine l_q rfl rfl rfl (q_assign rfl rfl) ?_
  refine l_q rfl rfl rfl (q_assign rfl rfl) ?_
  refine l_q rfl rfl rfl (q_assign rfl rfl) ?_
  refine l_q rfl rfl rfl (q_assign rfl rfl) ?_
  refine l_nil ?_
  refine n_then ?_
  refine t_seq ?_
  refine t_block ?_
  refine t_seq ?_
  refine t_region ?_
  refine l_q rfl rfl rfl (q_move rfl rfl) ?_
  refine l_q rfl rfl rfl (q_len_str rfl Tryz.underlying9 rfl) ?_
  refine l_q rfl rfl rfl (q_gtr rfl rfl rfl) ?_
  refine l_q rfl rfl rfl (q_assign rfl rfl) ?_
  refine l_nil ?_
  refine n_then ?_
  refine t_cond rfl (fun hc0 => ?_) (fun hc0 => ?_)
  · skip
    try simp at hc0
    have hlp : lineP s at' = ⟨[], 0, 0, 50⟩ := by unfold lineP; rw [if_pos (by omega)]
    refine t_seq ?_
    refine t_region ?_
    refine l_q rfl rfl rfl (q_assign rfl rfl) ?_
    refine l_q rfl rfl rfl (q_assign rfl rfl) ?_
    refine l_q rfl rfl rfl (q_assign rfl rfl) ?_
    refine l_q rfl rfl rfl (q_assign rfl rfl) ?_
    refine l_nil ?_
    refine n_then ?_
    refine t_ret ?_
    refine n_ret_block ?_
    refine n_ret_then ?_
    refine n_ret4 rfl rfl rfl rfl rfl (fun w' hw => ?_)
    -- leaf 0
    exact ⟨_, rfl, I, _, ⟨Le.refl _, rfl, (.slice none 0 0), (by rw [hlp]; rfl), (by rw [hlp]; exact sl_nil (fun _ h => by cases h))⟩, hw⟩
  · skip
    try simp at hc0
    have hs6 : s.length ≤ 65536 := by omega
    refine t_seq ?_
    refine t_qreg ?_
    refine s_q rfl rfl rfl (q_move rfl rfl) ?_
    refine s_q rfl rfl rfl (q_lss rfl rfl rfl) ?_
    refine s_q rfl rfl rfl (q_move rfl rfl) ?_
    refine s_or2 4 2 24 29 28 _ _ rfl rfl rfl rfl rfl rfl (fun h29 => by
        try simp at h29
        refine s_g rfl rfl rfl rfl rfl rfl (q_move rfl rfl) ?_
        refine s_g rfl rfl rfl rfl rfl rfl (q_move rfl rfl) ?_
        refine s_g rfl rfl rfl rfl rfl rfl (q_len_str rfl Tryz.underlying9 rfl) ?_
        refine s_g rfl rfl rfl rfl rfl rfl (q_gtr rfl rfl rfl) ?_
        exact s_val rfl
      ) (wanted_n rfl) rfl rfl rfl ?_
    refine s_q rfl rfl rfl (q_assign rfl rfl) ?_
    refine s_done ?_
    refine n_then ?_
    refine t_cond rfl (fun hc1 => ?_) (fun hc1 => ?_)
    · skip
      have h1 : (decide (at' < 0) || decide ((s.length : Int) < at')) = true := hc1
      have hlp : lineP s at' = ⟨[], 0, 0, 73⟩ := by unfold lineP; rw [if_neg (by omega), if_pos (by simpa using h1)]
      refine t_seq ?_
      refine t_region ?_
      refine l_q rfl rfl rfl (q_assign rfl rfl) ?_
      refine l_q rfl rfl rfl (q_assign rfl rfl) ?_
      refine l_q rfl rfl rfl (q_assign rfl rfl) ?_
      refine l_q rfl rfl rfl (q_assign rfl rfl) ?_
      refine l_nil ?_
      refine n_then ?_
      refine t_ret ?_
      refine n_ret_block ?_
      refine n_ret_then ?_
      refine n_ret4 rfl rfl rfl rfl rfl (fun w' hw => ?_)
      -- leaf 1
      exact ⟨_, rfl, I, _, ⟨Le.refl _, rfl, (.slice none 0 0), (by rw [hlp]; rfl), (by rw [hlp]; exact sl_nil (fun _ h => by cases h))⟩, hw⟩
    · skip
      have h1 : (decide (at' < 0) || decide ((s.length : Int) < at')) = false := hc1
      simp only [Bool.or_eq_false_iff, decide_eq_false_iff_not] at h1
      obtain ⟨i, rfl⟩ : ∃ i : Nat, at' = (i : Int) := ⟨at'.toNat, by omega⟩
      have hi : i ≤ s.length := by omega
      refine t_skip ?_
      refine n_block ?_
      refine n_then ?_
      refine t_seq ?_
      refine t_region ?_
      refine l_q rfl rfl rfl (q_move rfl rfl) ?_
      refine l_q rfl rfl rfl (q_move rfl rfl) ?_
      refine l_q rfl rfl rfl (q_build (pl := [(_, _), (_, _), (_, _)]) (cs := (scC s i 0 0).toArray) rfl Tryz.underlying130 ti130 ⟨rfl, ⟨_, _, ti9⟩, rfl, ⟨_, _, ti3⟩, rfl, ⟨_, _, ti128⟩, trivial⟩ rfl rfl) ?_
      refine l_e rfl rfl rfl (e_box rfl rfl rfl) ?_
      rintro _ _ _ ⟨b33, rfl, rfl, rfl⟩
      refine l_q rfl rfl rfl (q_assign rfl rfl) ?_
      refine l_nil ?_
      refine n_then ?_
      refine t_seq ?_
      refine t_region ?_
      refine l_q rfl rfl rfl (q_assign rfl rfl) ?_
      refine l_nil ?_
      refine n_then ?_
      refine t_cutE (ι := Value × List Tok × Nat × Nat × Nat) (fun zz => LnE i (lineL (s.length + 1) i (s.drop i)) zz.2.1 zz.2.2.1 zz.2.2.2.1 zz.2.2.2.2 ∧ zz.2.2.1 ≤ s.length ∧ zz.2.1.length ≤ s.length + 1) (fun zz => [(9, zz.1)]) [(0, _), (1, _), (4, _), (5, _), (6, _), (7, _), (17, _), (21, _), (8, _)] (fun zz => I) (fun zz => (row b33 130 (scC s zz.2.2.1 zz.2.2.2.1 zz.2.2.2.2) :: tvec 79 5 tokC zz.1 zz.2.1 :: F)) (sub_cons rfl (sub_cons rfl (sub_cons rfl (sub_cons rfl (sub_cons rfl (sub_cons rfl (sub_cons rfl (sub_cons rfl (sub_cons rfl sub_nil))))))))) ?_ ?_
      · skip
        refine t_block ?_
        refine t_loopE (ι := Nat × Nat × Value × List Tok) (fun zz => i ≤ zz.1 ∧ zz.1 ≤ s.length ∧ lineL (s.length + 1) i (s.drop i) = (lineL zz.2.1 zz.1 (s.drop zz.1)).app zz.2.2.2 (zz.1 - i) ∧ (s.drop zz.1).length < zz.2.1 ∧ zz.2.2.2.length ≤ zz.1) (fun zz => s.length - zz.1) (fun zz => [(9, zz.2.2.1)]) [(0, _), (1, _), (4, _), (5, _), (6, _), (7, _), (17, _), (21, _), (8, _)] (fun zz => I) (fun zz => (row b33 130 (scC s zz.1 0 0) :: tvec 79 5 tokC zz.2.2.1 zz.2.2.2 :: F)) (i, s.length + 1, .slice none 0 0, []) ?_ (sub_cons rfl sub_nil) (sub_cons rfl (sub_cons rfl (sub_cons rfl (sub_cons rfl (sub_cons rfl (sub_cons rfl (sub_cons rfl (sub_cons rfl (sub_cons rfl sub_nil))))))))) (fun _ h => subC_st (st_nilT 79 5 tokC h)) ?_
        · try dsimp only
          exact ⟨Nat.le_refl _, hi, by rw [Nat.sub_self, LnR.app_nil], by rw [List.length_drop]; omega, Nat.zero_le _⟩
        rintro ⟨j, g, v, l⟩ ⟨hj1, hj2, hx, hfl, hll⟩
        try dsimp only at *
        refine t_block ?_
        refine t_seq ?_
        refine t_region ?_
        refine l_q rfl rfl rfl (q_move rfl rfl) ?_
        refine l_e rfl rfl rfl (eff_call rfl rfl rfl Tryz.func78 (by kernel_rfl) rfl (fun w hw => token_calls b33 s j _ _ _ w (by omega) (by omega) (hG.mono (Le.refl _)) (picks_st1 (row b33 130 (scC s j 0 0)) hw))) ?_
        rintro _ _ _ ⟨rfl, tt, ok36, i36, a36, e36, rfl, htr, hi36, rfl⟩
        refine l_q rfl rfl rfl (q_move rfl rfl) ?_
        refine l_q rfl rfl rfl (q_extract rfl rfl rfl) ?_
        refine l_q rfl rfl rfl (q_extract rfl rfl rfl) ?_
        refine l_e rfl rfl rfl (e_alloc rfl ti79 rfl) ?_
        rintro _ _ _ ⟨b10, rfl, rfl, rfl⟩
        refine l_e0 rfl rfl ((by first | exact e_store_all rfl ti79 rfl rfl rfl (by first | exact chC_ones _ | exact pcC_ones _ | exact tokC_ones _ | simp [Value.oneCell', str, u8]) rfl | exact e_store_agg rfl ti79 rfl rfl rfl (by first | exact chC_ones _ | exact pcC_ones _ | exact tokC_ones _ | simp [Value.oneCell', str, u8]) rfl)) ?_
        rintro _ _ _ ⟨rfl, rfl⟩
        refine l_q rfl rfl rfl (q_assign rfl rfl) ?_
        refine l_nil ?_
        refine n_then ?_
        refine t_seq ?_
        refine t_seq ?_
        refine t_region ?_
        refine l_q rfl rfl rfl (q_move rfl rfl) ?_
        refine l_q rfl rfl rfl (q_not rfl rfl) ?_
        refine l_nil ?_
        refine n_then ?_
        refine t_cond rfl (fun hc2 => ?_) (fun hc2 => ?_)
        · skip
          have hend := tok_end hx hfl hj1 htr (by simpa using hc2)
          refine t_exit ?_
          refine n_exit_then ?_
          refine n_exit_other rfl ?_
          refine n_exit_then ?_
          refine n_exit_block ?_
          refine n_cut ((v, l, i36, a36, e36)) ?_ (sub_cons rfl sub_nil) (sub_cons rfl (sub_cons rfl (sub_cons rfl (sub_cons rfl (sub_cons rfl (sub_cons rfl (sub_cons rfl (sub_cons rfl (sub_cons rfl sub_nil))))))))) (fun _ h => by try dsimp only; exact subC_st h)
          · try dsimp only
            exact ⟨hend, hi36, by omega⟩
        · skip
          have hgo := tok_go hx hfl hj1 htr (by simpa using hc2)
          refine t_skip ?_
          refine n_then ?_
          refine t_seq ?_
          refine t_region ?_
          refine l_q rfl rfl rfl (q_move rfl rfl) ?_
          refine l_q rfl rfl rfl (q_load_rowA rfl Tryz.underlying79 ti79 rfl rfl rfl) ?_
          refine l_e rfl rfl rfl (e_buildSlice1 rfl Tryz.underlying51 ti79 rfl rfl rfl (by first | exact One.cells (by assumption) | exact One.cells hone | rfl) rfl) ?_
          rintro _ _ _ ⟨b43, rfl, rfl, rfl⟩
          refine l_e rfl rfl rfl (e_appendT (f := tokC) (c := tt) rfl Tryz.underlying51 ti79 rfl rfl rfl rfl rfl rfl rfl (by first | exact tokC_ones _ | exact byC_ones _ | exact chC_ones _ | exact pcC_ones _ | simp [Value.oneCell', str, u8] | exact ones1 (by assumption)) (by simp only [maxLen]; omega) (by omega)) ?_
          rintro v44 _ _ ⟨rfl, rfl⟩
          refine l_one v44 (fun hone => ?_)
          refine l_q rfl rfl rfl (q_assign rfl rfl) ?_
          refine l_nil ?_
          refine n_then ?_
          refine t_seq ?_
          refine t_region ?_
          refine l_q rfl rfl rfl (q_fieldAddr rfl Tryz.underlying79 rfl rfl ti3 rfl rfl) ?_
          refine l_q rfl rfl rfl ((by first | exact q_load_row rfl Tryz.underlying3 rfl rfl (by rfl) | exact q_load_vecF rfl Tryz.underlying3 rfl rfl (vec_at (fo := 0) (f := tokC) (d := tok0) (fun _ => rfl) (show n < cur.length by omega) rfl) | exact q_load_vecF rfl Tryz.underlying3 rfl rfl (vec_at (fo := 0) (f := tokC) (d := tok0) (fun _ => rfl) (show n - 1 < cur.length by omega) rfl) | exact q_load_vecF rfl Tryz.underlying3 rfl rfl (vec_at (fo := 1) (f := tokC) (d := tok0) (fun _ => rfl) (show n < cur.length by omega) rfl) | exact q_load_vecF rfl Tryz.underlying3 rfl rfl (vec_at (fo := 1) (f := tokC) (d := tok0) (fun _ => rfl) (show n - 1 < cur.length by omega) rfl) | exact q_load_vecF rfl Tryz.underlying3 rfl rfl (vec_at (fo := 2) (f := tokC) (d := tok0) (fun _ => rfl) (show n < cur.length by omega) rfl))) ?_
          refine l_q rfl rfl rfl (q_eql rfl rfl rfl) ?_
          refine l_nil ?_
          refine n_then ?_
          refine t_cond rfl (fun hc3 => ?_) (fun hc3 => ?_)
          · skip
            try simp at hc3
            have hc3 : tt.kind = 3 := by omega
            refine t_exit ?_
            refine n_exit_other rfl ?_
            refine n_exit_then ?_
            refine n_exit_block ?_
            refine n_cut ((v44, l ++ [tt], i36, a36, e36)) ?_ (sub_cons rfl sub_nil) (sub_cons rfl (sub_cons rfl (sub_cons rfl (sub_cons rfl (sub_cons rfl (sub_cons rfl (sub_cons rfl (sub_cons rfl (sub_cons rfl sub_nil))))))))) (fun _ h => by try dsimp only; exact subC_st h)
            · try dsimp only
              refine ⟨?_, hi36, by simp only [List.length_append, List.length_cons, List.length_nil]; omega⟩
              obtain ⟨_, h1, h2, h3, _⟩ := hgo
              rw [h1, h2]
              exact h3 hc3
          · skip
            try simp at hc3
            have hc3 : ¬ tt.kind = 3 := by omega
            refine t_skip ?_
            refine n_block ?_
            refine n_roundE ((i36, g - 1, v44, l ++ [tt])) ?_ ?_ (sub_cons rfl sub_nil) (sub_cons rfl (sub_cons rfl (sub_cons rfl (sub_cons rfl (sub_cons rfl (sub_cons rfl (sub_cons rfl (sub_cons rfl (sub_cons rfl sub_nil))))))))) (fun _ h => by obtain ⟨_, h1, h2, _⟩ := hgo; subst h1; subst h2; dsimp only; exact subC_st h)
            · try dsimp only
              refine ⟨by omega, hi36, hgo.2.2.2.2 hc3, ?_, by simp only [List.length_append, List.length_cons, List.length_nil]; omega⟩
              rw [List.length_drop] at hfl ⊢; omega
            · try dsimp only
              show s.length - i36 < s.length - j
              omega
      rintro ⟨v, l, jb, ab, eb⟩ ⟨hln, hjb, hlb⟩
      try dsimp only at *
      have hla := lineAt_eq hln
      have hlp := lineP_at (s := s) (i := i) hs6 hi
      refine t_seq ?_
      refine t_seq ?_
      refine t_region ?_
      refine l_q rfl rfl rfl (q_move rfl rfl) ?_
      refine l_q rfl rfl rfl (q_nilCheck rfl rfl) ?_
      refine l_q rfl rfl rfl (q_fieldAddr rfl Tryz.underlying130 rfl rfl ti128 rfl rfl) ?_
      refine l_q rfl rfl rfl (q_fieldAddr rfl Tryz.underlying128 rfl rfl ti30 rfl rfl) ?_
      refine l_q rfl rfl rfl ((by first | exact q_load_row rfl Tryz.underlying30 rfl rfl (by rfl) | exact q_load_vecF rfl Tryz.underlying30 rfl rfl (vec_at (fo := 0) (f := tokC) (d := tok0) (fun _ => rfl) (show n < cur.length by omega) rfl) | exact q_load_vecF rfl Tryz.underlying30 rfl rfl (vec_at (fo := 0) (f := tokC) (d := tok0) (fun _ => rfl) (show n - 1 < cur.length by omega) rfl) | exact q_load_vecF rfl Tryz.underlying30 rfl rfl (vec_at (fo := 1) (f := tokC) (d := tok0) (fun _ => rfl) (show n < cur.length by omega) rfl) | exact q_load_vecF rfl Tryz.underlying30 rfl rfl (vec_at (fo := 1) (f := tokC) (d := tok0) (fun _ => rfl) (show n - 1 < cur.length by omega) rfl) | exact q_load_vecF rfl Tryz.underlying30 rfl rfl (vec_at (fo := 2) (f := tokC) (d := tok0) (fun _ => rfl) (show n < cur.length by omega) rfl))) ?_
      refine l_q rfl rfl rfl (q_neq rfl rfl rfl) ?_
      refine l_nil ?_
      refine n_then ?_
      refine t_cond rfl (fun hc4 => ?_) (fun hc4 => ?_)
      · skip
        try simp at hc4
        have he : eb ≠ 0 := by omega
        have hres := hla.1 he
        rw [← hlp] at hres
        refine t_seq ?_
        refine t_qdraw mo (by kernel_rfl) (fun _ _ _ _ _ h => h) ?_
        refine s_q rfl rfl rfl (q_move rfl rfl) ?_
        refine s_q rfl rfl rfl (q_nilCheck rfl rfl) ?_
        refine s_q rfl rfl rfl (q_fieldAddr rfl Tryz.underlying130 rfl rfl ti128 rfl rfl) ?_
        refine s_q rfl rfl rfl (q_fieldAddr rfl Tryz.underlying128 rfl rfl ti3 rfl rfl) ?_
        refine s_q rfl rfl rfl ((by first | exact q_load_row rfl Tryz.underlying3 rfl rfl (by rfl) | exact q_load_vecF rfl Tryz.underlying3 rfl rfl (vec_at (fo := 0) (f := tokC) (d := tok0) (fun _ => rfl) (show n < cur.length by omega) rfl) | exact q_load_vecF rfl Tryz.underlying3 rfl rfl (vec_at (fo := 0) (f := tokC) (d := tok0) (fun _ => rfl) (show n - 1 < cur.length by omega) rfl) | exact q_load_vecF rfl Tryz.underlying3 rfl rfl (vec_at (fo := 1) (f := tokC) (d := tok0) (fun _ => rfl) (show n < cur.length by omega) rfl) | exact q_load_vecF rfl Tryz.underlying3 rfl rfl (vec_at (fo := 1) (f := tokC) (d := tok0) (fun _ => rfl) (show n - 1 < cur.length by omega) rfl) | exact q_load_vecF rfl Tryz.underlying3 rfl rfl (vec_at (fo := 2) (f := tokC) (d := tok0) (fun _ => rfl) (show n < cur.length by omega) rfl))) ?_
        refine s_q rfl rfl rfl (q_move rfl rfl) ?_
        refine s_q rfl rfl rfl (q_nilCheck rfl rfl) ?_
        refine s_q rfl rfl rfl (q_fieldAddr rfl Tryz.underlying130 rfl rfl ti128 rfl rfl) ?_
        refine s_q rfl rfl rfl (q_fieldAddr rfl Tryz.underlying128 rfl rfl ti30 rfl rfl) ?_
        refine s_q rfl rfl rfl ((by first | exact q_load_row rfl Tryz.underlying30 rfl rfl (by rfl) | exact q_load_vecF rfl Tryz.underlying30 rfl rfl (vec_at (fo := 0) (f := tokC) (d := tok0) (fun _ => rfl) (show n < cur.length by omega) rfl) | exact q_load_vecF rfl Tryz.underlying30 rfl rfl (vec_at (fo := 0) (f := tokC) (d := tok0) (fun _ => rfl) (show n - 1 < cur.length by omega) rfl) | exact q_load_vecF rfl Tryz.underlying30 rfl rfl (vec_at (fo := 1) (f := tokC) (d := tok0) (fun _ => rfl) (show n < cur.length by omega) rfl) | exact q_load_vecF rfl Tryz.underlying30 rfl rfl (vec_at (fo := 1) (f := tokC) (d := tok0) (fun _ => rfl) (show n - 1 < cur.length by omega) rfl) | exact q_load_vecF rfl Tryz.underlying30 rfl rfl (vec_at (fo := 2) (f := tokC) (d := tok0) (fun _ => rfl) (show n < cur.length by omega) rfl))) ?_
        refine s_q rfl rfl rfl (q_assign rfl rfl) ?_
        refine s_q rfl rfl rfl (q_assign rfl rfl) ?_
        refine s_q rfl rfl rfl (q_assign rfl rfl) ?_
        refine s_q rfl rfl rfl (q_assign rfl rfl) ?_
        refine s_done ?_
        refine n_then ?_
        refine t_ret ?_
        refine n_ret_then ?_
        refine n_ret4 rfl rfl rfl rfl rfl (fun w' hw => ?_)
        -- leaf 2
        exact ⟨_, rfl, I, _, ⟨Le.refl _, rfl, (.slice none 0 0), (by rw [hres]; rfl), (by rw [hres]; exact sl_nil (fun _ h => by cases h))⟩, subC_st hw⟩
      · skip
        try simp at hc4
        obtain rfl : eb = 0 := by omega
        obtain ⟨kx, hlx, _, rfl⟩ := hln.ok rfl
        have hTx : ∀ m, m < l.length → (nth l m tok0).text.length ≤ s.length := fun m hm => Nat.le_trans (lineL_texts _ _ _ _ _ hlx _ (nth_mem hm)) (by rw [List.length_drop]; omega)
        have hla2 := hla.2 rfl
        rw [← hlp] at hla2
        refine t_skip ?_
        refine n_then ?_
        refine t_seq ?_
        refine t_seq ?_
        refine t_region ?_
        refine l_q rfl rfl rfl (q_move rfl rfl) ?_
        refine l_q rfl rfl rfl ((by first | exact q_lenV rfl Tryz.underlying51 rfl | exact q_len rfl Tryz.underlying51 rfl (Sl.len ‹_›))) ?_
        refine l_q rfl rfl rfl (q_move rfl rfl) ?_
        refine l_nil ?_
        refine n_then ?_
        refine t_block ?_
        refine t_loopE (ι := Nat × List Tok × Nat) (fun zz => DInv s l jb zz.1 zz.2.1 zz.2.2 ∧ zz.2.2 ≤ s.length) (fun zz => l.length - zz.1) (fun zz => [(66, .int .i64 (zz.1 : Int))]) [(9, _), (0, _), (1, _), (17, _), (21, _), (8, _), (53, _), (65, _)] (fun zz => I) (fun zz => (row b33 130 (scC s zz.2.2 0 0) :: tvec 79 5 tokC v zz.2.1 :: F)) (0, l, jb) ?_ (sub_cons rfl sub_nil) (sub_cons rfl (sub_cons rfl (sub_cons rfl (sub_cons rfl (sub_cons rfl (sub_cons rfl (sub_cons rfl (sub_cons rfl sub_nil)))))))) (fun _ h => subC_st h) ?_
        · try dsimp only
          exact ⟨DInv.start s l jb, hjb⟩
        rintro ⟨n, cur, jj⟩ ⟨hD, hjj⟩
        try dsimp only at *
        have hcl := hD.len
        refine t_seq ?_
        refine t_region ?_
        refine l_q rfl rfl rfl (q_lss rfl rfl rfl) ?_
        refine l_nil ?_
        refine n_then ?_
        refine t_seq ?_
        refine t_cond rfl (fun hc5 => ?_) (fun hc5 => ?_)
        · skip
          try simp at hc5
          have hn : n < l.length := by omega
          refine t_skip ?_
          refine n_then ?_
          refine t_seq ?_
          refine t_block ?_
          refine t_seq ?_
          refine t_region ?_
          refine l_q rfl rfl rfl (q_move rfl rfl) ?_
          refine l_q rfl rfl rfl (q_assign rfl rfl) ?_
          refine l_nil ?_
          refine n_then ?_
          refine t_seq ?_
          refine t_seq ?_
          refine t_qreg ?_
          refine s_q rfl rfl rfl (q_move rfl rfl) ?_
          refine s_q rfl rfl rfl (q_eql rfl rfl rfl) ?_
          refine s_q rfl rfl rfl (q_move rfl rfl) ?_
          refine s_or2 6 2 71 78 77 _ _ rfl rfl rfl rfl rfl rfl (fun h78 => by
              try simp at h78
              refine s_g rfl rfl rfl rfl rfl rfl (q_move rfl rfl) ?_
              refine s_g rfl rfl rfl rfl rfl rfl (q_move rfl rfl) ?_
              refine s_g rfl rfl rfl rfl rfl rfl ((by first | exact q_indexAddrVN rfl Tryz.underlying51 ti79 rfl rfl (by omega) | exact q_indexAddrN rfl Tryz.underlying51 ti79 rfl rfl (Sl.shape ‹_› (by simp)) (by omega) | exact q_indexAddrV rfl Tryz.underlying51 ti79 rfl rfl (by omega) | exact q_indexAddr rfl Tryz.underlying51 ti79 rfl rfl (Sl.shape ‹_› (by simp)) (by omega))) ?_
              refine s_g rfl rfl rfl rfl rfl rfl (q_fieldAddr rfl Tryz.underlying79 rfl rfl ti3 rfl rfl) ?_
              refine s_g rfl rfl rfl rfl rfl rfl ((by first | exact q_load_row rfl Tryz.underlying3 rfl rfl (by rfl) | exact q_load_vecF rfl Tryz.underlying3 rfl rfl (vec_at (fo := 0) (f := tokC) (d := tok0) (fun _ => rfl) (show n < cur.length by omega) rfl) | exact q_load_vecF rfl Tryz.underlying3 rfl rfl (vec_at (fo := 0) (f := tokC) (d := tok0) (fun _ => rfl) (show n - 1 < cur.length by omega) rfl) | exact q_load_vecF rfl Tryz.underlying3 rfl rfl (vec_at (fo := 1) (f := tokC) (d := tok0) (fun _ => rfl) (show n < cur.length by omega) rfl) | exact q_load_vecF rfl Tryz.underlying3 rfl rfl (vec_at (fo := 1) (f := tokC) (d := tok0) (fun _ => rfl) (show n - 1 < cur.length by omega) rfl) | exact q_load_vecF rfl Tryz.underlying3 rfl rfl (vec_at (fo := 2) (f := tokC) (d := tok0) (fun _ => rfl) (show n < cur.length by omega) rfl))) ?_
              refine s_g rfl rfl rfl rfl rfl rfl (q_neq rfl rfl rfl) ?_
              exact s_val rfl
            ) (wanted_n rfl) rfl rfl rfl ?_
          refine s_q rfl rfl rfl (q_move rfl rfl) ?_
          refine s_or2 7 10 79 87 86 _ _ rfl rfl rfl rfl rfl rfl (fun h87 => by
              try simp at h87
              refine s_g rfl rfl rfl rfl rfl rfl (q_move rfl rfl) ?_
              refine s_g rfl rfl rfl rfl rfl rfl (q_move rfl rfl) ?_
              refine s_g rfl rfl rfl rfl rfl rfl (q_sub64 rfl rfl rfl (by omega)) ?_
              rw [show (n : Int) - 1 = ((n - 1 : Nat) : Int) by omega]
              refine s_g rfl rfl rfl rfl rfl rfl ((by first | exact q_indexAddrVN rfl Tryz.underlying51 ti79 rfl rfl (by omega) | exact q_indexAddrN rfl Tryz.underlying51 ti79 rfl rfl (Sl.shape ‹_› (by simp)) (by omega) | exact q_indexAddrV rfl Tryz.underlying51 ti79 rfl rfl (by omega) | exact q_indexAddr rfl Tryz.underlying51 ti79 rfl rfl (Sl.shape ‹_› (by simp)) (by omega))) ?_
              refine s_g rfl rfl rfl rfl rfl rfl (q_fieldAddr rfl Tryz.underlying79 rfl rfl ti3 rfl rfl) ?_
              refine s_g rfl rfl rfl rfl rfl rfl ((by first | exact q_load_row rfl Tryz.underlying3 rfl rfl (by rfl) | exact q_load_vecF rfl Tryz.underlying3 rfl rfl (vec_at (fo := 0) (f := tokC) (d := tok0) (fun _ => rfl) (show n < cur.length by omega) rfl) | exact q_load_vecF rfl Tryz.underlying3 rfl rfl (vec_at (fo := 0) (f := tokC) (d := tok0) (fun _ => rfl) (show n - 1 < cur.length by omega) rfl) | exact q_load_vecF rfl Tryz.underlying3 rfl rfl (vec_at (fo := 1) (f := tokC) (d := tok0) (fun _ => rfl) (show n < cur.length by omega) rfl) | exact q_load_vecF rfl Tryz.underlying3 rfl rfl (vec_at (fo := 1) (f := tokC) (d := tok0) (fun _ => rfl) (show n - 1 < cur.length by omega) rfl) | exact q_load_vecF rfl Tryz.underlying3 rfl rfl (vec_at (fo := 2) (f := tokC) (d := tok0) (fun _ => rfl) (show n < cur.length by omega) rfl))) ?_
              refine s_g rfl rfl rfl rfl rfl rfl (q_neq rfl rfl rfl) ?_
              exact s_val rfl
            ) (wanted_n rfl) rfl rfl rfl ?_
          refine s_q rfl rfl rfl (q_move rfl rfl) ?_
          refine s_or2 8 19 88 97 96 _ _ rfl rfl rfl rfl rfl rfl (fun h97 => by
              try simp at h97
              refine s_g rfl rfl rfl rfl rfl rfl (q_move rfl rfl) ?_
              refine s_g rfl rfl rfl rfl rfl rfl (q_move rfl rfl) ?_
              refine s_g rfl rfl rfl rfl rfl rfl (q_sub64 rfl rfl rfl (by omega)) ?_
              rw [show (n : Int) - 1 = ((n - 1 : Nat) : Int) by omega]
              refine s_g rfl rfl rfl rfl rfl rfl ((by first | exact q_indexAddrVN rfl Tryz.underlying51 ti79 rfl rfl (by omega) | exact q_indexAddrN rfl Tryz.underlying51 ti79 rfl rfl (Sl.shape ‹_› (by simp)) (by omega) | exact q_indexAddrV rfl Tryz.underlying51 ti79 rfl rfl (by omega) | exact q_indexAddr rfl Tryz.underlying51 ti79 rfl rfl (Sl.shape ‹_› (by simp)) (by omega))) ?_
              refine s_g rfl rfl rfl rfl rfl rfl (q_fieldAddr rfl Tryz.underlying79 rfl rfl ti9 rfl rfl) ?_
              refine s_g rfl rfl rfl rfl rfl rfl ((by first | exact q_load_row rfl Tryz.underlying9 rfl rfl (by rfl) | exact q_load_vecF rfl Tryz.underlying9 rfl rfl (vec_at (fo := 0) (f := tokC) (d := tok0) (fun _ => rfl) (show n < cur.length by omega) rfl) | exact q_load_vecF rfl Tryz.underlying9 rfl rfl (vec_at (fo := 0) (f := tokC) (d := tok0) (fun _ => rfl) (show n - 1 < cur.length by omega) rfl) | exact q_load_vecF rfl Tryz.underlying9 rfl rfl (vec_at (fo := 1) (f := tokC) (d := tok0) (fun _ => rfl) (show n < cur.length by omega) rfl) | exact q_load_vecF rfl Tryz.underlying9 rfl rfl (vec_at (fo := 1) (f := tokC) (d := tok0) (fun _ => rfl) (show n - 1 < cur.length by omega) rfl) | exact q_load_vecF rfl Tryz.underlying9 rfl rfl (vec_at (fo := 2) (f := tokC) (d := tok0) (fun _ => rfl) (show n < cur.length by omega) rfl))) ?_
              refine s_g rfl rfl rfl rfl rfl rfl (quiet_call rfl rfl rfl Tryz.func79 (by kernel_rfl) rfl ((fun w _ => hasPrefix_pure (nth cur (n - 1) tok0).text [60, 60] w))) ?_
              refine s_g rfl rfl rfl rfl rfl rfl (q_not rfl rfl) ?_
              exact s_val rfl
            ) (wanted_n rfl) rfl rfl rfl ?_
          refine s_done ?_
          refine n_then ?_
          refine t_cond rfl (fun hc6 => ?_) (fun hc6 => ?_)
          · skip
            have hhere : (!(decide ((n : Int) = 0) || decide (((nth cur n tok0).kind : Int) ≠ 1) || decide (((nth cur (n - 1) tok0).kind : Int) ≠ 2) || !stB (nth cur (n - 1) tok0).text [60, 60])) = false := by rw [show (_ || _ || _ || _) = true from hc6]; rfl
            refine t_exit ?_
            refine n_exit_then ?_
            refine n_exit_block ?_
            refine n_then ?_
            refine t_region ?_
            refine l_q rfl rfl rfl (q_add64 rfl rfl rfl (by omega)) ?_
            refine l_q rfl rfl rfl (q_move rfl rfl) ?_
            refine l_nil ?_
            refine n_roundE ((n + 1, cur, jj)) ?_ ?_ (sub_cons rfl sub_nil) (sub_cons rfl (sub_cons rfl (sub_cons rfl (sub_cons rfl (sub_cons rfl (sub_cons rfl (sub_cons rfl (sub_cons rfl sub_nil)))))))) (fun _ h => by try dsimp only; exact subC_st h)
            · try dsimp only
              exact ⟨hD.skip hn (by rw [hD.here hn]; exact hhere), hjj⟩
            · try dsimp only
              show l.length - (n + 1) < l.length - n
              omega
          · skip
            have hh : hereB (prevOf l n) (nth l n tok0) = true := by rw [hD.here hn, show (_ || _ || _ || _) = false from hc6]; rfl
            have hn0 : 0 < n := by
              rcases Nat.eq_zero_or_pos n with h | h
              · subst h; cases hh
              · exact h
            refine t_skip ?_
            refine n_then ?_
            refine t_seq ?_
            refine t_region ?_
            refine l_q rfl rfl rfl (q_move rfl rfl) ?_
            refine l_q rfl rfl rfl (q_move rfl rfl) ?_
            refine l_q rfl rfl rfl ((by first | exact q_indexAddrVN rfl Tryz.underlying51 ti79 rfl rfl (by omega) | exact q_indexAddrN rfl Tryz.underlying51 ti79 rfl rfl (Sl.shape ‹_› (by simp)) (by omega) | exact q_indexAddrV rfl Tryz.underlying51 ti79 rfl rfl (by omega) | exact q_indexAddr rfl Tryz.underlying51 ti79 rfl rfl (Sl.shape ‹_› (by simp)) (by omega))) ?_
            refine l_q rfl rfl rfl (q_fieldAddr rfl Tryz.underlying79 rfl rfl ti9 rfl rfl) ?_
            refine l_q rfl rfl rfl ((by first | exact q_load_row rfl Tryz.underlying9 rfl rfl (by rfl) | exact q_load_vecF rfl Tryz.underlying9 rfl rfl (vec_at (fo := 0) (f := tokC) (d := tok0) (fun _ => rfl) (show n < cur.length by omega) rfl) | exact q_load_vecF rfl Tryz.underlying9 rfl rfl (vec_at (fo := 0) (f := tokC) (d := tok0) (fun _ => rfl) (show n - 1 < cur.length by omega) rfl) | exact q_load_vecF rfl Tryz.underlying9 rfl rfl (vec_at (fo := 1) (f := tokC) (d := tok0) (fun _ => rfl) (show n < cur.length by omega) rfl) | exact q_load_vecF rfl Tryz.underlying9 rfl rfl (vec_at (fo := 1) (f := tokC) (d := tok0) (fun _ => rfl) (show n - 1 < cur.length by omega) rfl) | exact q_load_vecF rfl Tryz.underlying9 rfl rfl (vec_at (fo := 2) (f := tokC) (d := tok0) (fun _ => rfl) (show n < cur.length by omega) rfl))) ?_
            refine l_q rfl rfl rfl (quiet_call rfl rfl rfl Tryz.func80 (by kernel_rfl) rfl ((fun w _ => bare_pure (nth cur n tok0).text w (by rw [hD.cur_at hn]; have := hTx n hn; omega)))) ?_
            refine l_q rfl rfl rfl (q_move rfl rfl) ?_
            refine l_q rfl rfl rfl (q_extract rfl rfl rfl) ?_
            refine l_q rfl rfl rfl (q_extract rfl rfl rfl) ?_
            refine l_q rfl rfl rfl (q_assign rfl rfl) ?_
            refine l_q rfl rfl rfl (q_assign rfl rfl) ?_
            refine l_nil ?_
            refine n_then ?_
            refine t_seq ?_
            refine t_region ?_
            refine l_q rfl rfl rfl (q_move rfl rfl) ?_
            refine l_q rfl rfl rfl (q_move rfl rfl) ?_
            refine l_q rfl rfl rfl (q_move rfl rfl) ?_
            refine l_q rfl rfl rfl (q_move rfl rfl) ?_
            refine l_q rfl rfl rfl (q_sub64 rfl rfl rfl (by omega)) ?_
            rw [show (n : Int) - 1 = ((n - 1 : Nat) : Int) by omega]
            refine l_q rfl rfl rfl ((by first | exact q_indexAddrVN rfl Tryz.underlying51 ti79 rfl rfl (by omega) | exact q_indexAddrN rfl Tryz.underlying51 ti79 rfl rfl (Sl.shape ‹_› (by simp)) (by omega) | exact q_indexAddrV rfl Tryz.underlying51 ti79 rfl rfl (by omega) | exact q_indexAddr rfl Tryz.underlying51 ti79 rfl rfl (Sl.shape ‹_› (by simp)) (by omega))) ?_
            refine l_q rfl rfl rfl (q_fieldAddr rfl Tryz.underlying79 rfl rfl ti9 rfl rfl) ?_
            refine l_q rfl rfl rfl ((by first | exact q_load_row rfl Tryz.underlying9 rfl rfl (by rfl) | exact q_load_vecF rfl Tryz.underlying9 rfl rfl (vec_at (fo := 0) (f := tokC) (d := tok0) (fun _ => rfl) (show n < cur.length by omega) rfl) | exact q_load_vecF rfl Tryz.underlying9 rfl rfl (vec_at (fo := 0) (f := tokC) (d := tok0) (fun _ => rfl) (show n - 1 < cur.length by omega) rfl) | exact q_load_vecF rfl Tryz.underlying9 rfl rfl (vec_at (fo := 1) (f := tokC) (d := tok0) (fun _ => rfl) (show n < cur.length by omega) rfl) | exact q_load_vecF rfl Tryz.underlying9 rfl rfl (vec_at (fo := 1) (f := tokC) (d := tok0) (fun _ => rfl) (show n - 1 < cur.length by omega) rfl) | exact q_load_vecF rfl Tryz.underlying9 rfl rfl (vec_at (fo := 2) (f := tokC) (d := tok0) (fun _ => rfl) (show n < cur.length by omega) rfl))) ?_
            refine l_q rfl rfl rfl (q_eql_str rfl rfl rfl) ?_
            refine l_e rfl rfl rfl (eff_call rfl rfl rfl Tryz.func81 (by kernel_rfl) rfl (fun w hw => document_calls b33 s (bareP (nth cur n tok0).text) (decide ((nth cur (n - 1) tok0).text = [60, 60, 45])) jj _ _ _ w (by omega) (by omega) hG (picks_st1 (row b33 130 (scC s jj 0 0)) hw))) ?_
            rintro _ _ _ ⟨rfl, dd, ok117, i117, rfl, hdr, hi117, rfl⟩
            refine l_q rfl rfl rfl (q_move rfl rfl) ?_
            refine l_q rfl rfl rfl (q_extract rfl rfl rfl) ?_
            refine l_q rfl rfl rfl (q_extract rfl rfl rfl) ?_
            refine l_q rfl rfl rfl (q_assign rfl rfl) ?_
            refine l_q rfl rfl rfl (q_assign rfl rfl) ?_
            refine l_nil ?_
            refine n_then ?_
            refine t_seq ?_
            refine t_seq ?_
            refine t_region ?_
            refine l_q rfl rfl rfl (q_move rfl rfl) ?_
            refine l_q rfl rfl rfl (q_not rfl rfl) ?_
            refine l_nil ?_
            refine n_then ?_
            refine t_cond rfl (fun hc7 => ?_) (fun hc7 => ?_)
            · skip
              have hnone := hdr.f (by simpa using hc7)
              rw [← hD.strip hn0, hD.cur_at hn] at hnone
              have hres := hla2.1 _ (hD.bad hn hh hnone)
              refine t_seq ?_
              refine t_qdraw mo (by kernel_rfl) (fun _ _ _ _ _ h => h) ?_
              refine s_q rfl rfl rfl (q_move rfl rfl) ?_
              refine s_q rfl rfl rfl (q_move rfl rfl) ?_
              refine s_q rfl rfl rfl ((by first | exact q_indexAddrVN rfl Tryz.underlying51 ti79 rfl rfl (by omega) | exact q_indexAddrN rfl Tryz.underlying51 ti79 rfl rfl (Sl.shape ‹_› (by simp)) (by omega) | exact q_indexAddrV rfl Tryz.underlying51 ti79 rfl rfl (by omega) | exact q_indexAddr rfl Tryz.underlying51 ti79 rfl rfl (Sl.shape ‹_› (by simp)) (by omega))) ?_
              refine s_q rfl rfl rfl (q_fieldAddr rfl Tryz.underlying79 rfl rfl ti3 rfl rfl) ?_
              refine s_q rfl rfl rfl ((by first | exact q_load_row rfl Tryz.underlying3 rfl rfl (by rfl) | exact q_load_vecF rfl Tryz.underlying3 rfl rfl (vec_at (fo := 0) (f := tokC) (d := tok0) (fun _ => rfl) (show n < cur.length by omega) rfl) | exact q_load_vecF rfl Tryz.underlying3 rfl rfl (vec_at (fo := 0) (f := tokC) (d := tok0) (fun _ => rfl) (show n - 1 < cur.length by omega) rfl) | exact q_load_vecF rfl Tryz.underlying3 rfl rfl (vec_at (fo := 1) (f := tokC) (d := tok0) (fun _ => rfl) (show n < cur.length by omega) rfl) | exact q_load_vecF rfl Tryz.underlying3 rfl rfl (vec_at (fo := 1) (f := tokC) (d := tok0) (fun _ => rfl) (show n - 1 < cur.length by omega) rfl) | exact q_load_vecF rfl Tryz.underlying3 rfl rfl (vec_at (fo := 2) (f := tokC) (d := tok0) (fun _ => rfl) (show n < cur.length by omega) rfl))) ?_
              refine s_q rfl rfl rfl (q_assign rfl rfl) ?_
              refine s_q rfl rfl rfl (q_assign rfl rfl) ?_
              refine s_q rfl rfl rfl (q_assign rfl rfl) ?_
              refine s_q rfl rfl rfl (q_assign rfl rfl) ?_
              refine s_done ?_
              refine n_then ?_
              refine t_ret ?_
              refine n_ret_then ?_
              refine n_ret_block ?_
              refine n_ret_then ?_
              refine n_ret_then ?_
              refine n_ret_block ?_
              refine n_ret_then ?_
              refine n_ret4 rfl rfl rfl rfl rfl (fun w' hw => ?_)
              -- leaf 3
              exact ⟨_, rfl, I, _, ⟨Le.refl _, rfl, (.slice none 0 0), (by rw [hres, hD.cur_at hn]; rfl), (by rw [hres]; exact sl_nil (fun _ h => by cases h))⟩, subC_st hw⟩
            · skip
              obtain ⟨kk, hdx, hi9⟩ := hdr.t (by simpa using hc7)
              rw [← hD.strip hn0, hD.cur_at hn] at hdx
              refine t_skip ?_
              refine n_then ?_
              refine t_region ?_
              refine l_q rfl rfl rfl (q_move rfl rfl) ?_
              refine l_q rfl rfl rfl (q_move rfl rfl) ?_
              refine l_q rfl rfl rfl (q_move rfl rfl) ?_
              refine l_q rfl rfl rfl (q_move rfl rfl) ?_
              refine l_q rfl rfl rfl (q_move rfl rfl) ?_
              refine l_q rfl rfl rfl (q_move rfl rfl) ?_
              refine l_q rfl rfl rfl ((by first | exact q_indexAddrVN rfl Tryz.underlying51 ti79 rfl rfl (by omega) | exact q_indexAddrN rfl Tryz.underlying51 ti79 rfl rfl (Sl.shape ‹_› (by simp)) (by omega) | exact q_indexAddrV rfl Tryz.underlying51 ti79 rfl rfl (by omega) | exact q_indexAddr rfl Tryz.underlying51 ti79 rfl rfl (Sl.shape ‹_› (by simp)) (by omega))) ?_
              refine l_q rfl rfl rfl (q_fieldAddr rfl Tryz.underlying79 rfl rfl ti9 rfl rfl) ?_
              refine l_e0 rfl rfl (e_storeT tok0 ({ nth cur n tok0 with doc := dd }) rfl ti9 rfl rfl (by first | exact ⟨rfl, rfl⟩ | assumption) (fun _ => rfl) (by first | omega | (rw [List.length_set]; omega)) rfl rfl) ?_
              rintro _ _ _ ⟨rfl, rfl⟩
              have hcl2 : (cur.set n ({ nth cur n tok0 with doc := dd })).length = l.length := by rw [List.length_set]; exact hcl
              refine l_q rfl rfl rfl ((by first | exact q_indexAddrVN rfl Tryz.underlying51 ti79 rfl rfl (by omega) | exact q_indexAddrN rfl Tryz.underlying51 ti79 rfl rfl (Sl.shape ‹_› (by simp)) (by omega) | exact q_indexAddrV rfl Tryz.underlying51 ti79 rfl rfl (by omega) | exact q_indexAddr rfl Tryz.underlying51 ti79 rfl rfl (Sl.shape ‹_› (by simp)) (by omega))) ?_
              refine l_q rfl rfl rfl (q_fieldAddr rfl Tryz.underlying79 rfl rfl ti4 rfl rfl) ?_
              refine l_e0 rfl rfl (e_storeT tok0 ({ nth cur n tok0 with doc := dd, raw := anyOf (nth cur n tok0).text quoteSet }) rfl ti4 rfl rfl (by first | exact ⟨rfl, rfl⟩ | assumption) (fun _ => rfl) (by first | omega | (rw [List.length_set]; omega)) rfl (by rw [nth_set_eq (by omega)]; rfl)) ?_
              rintro _ _ _ ⟨rfl, rfl⟩
              refine l_nil ?_
              refine n_block ?_
              refine n_then ?_
              refine t_region ?_
              refine l_q rfl rfl rfl (q_add64 rfl rfl rfl (by omega)) ?_
              refine l_q rfl rfl rfl (q_move rfl rfl) ?_
              refine l_nil ?_
              refine n_roundE ((n + 1, (cur.set n ({ nth cur n tok0 with doc := dd })).set n ({ nth cur n tok0 with doc := dd, raw := anyOf (nth cur n tok0).text quoteSet }), i117)) ?_ ?_ (sub_cons rfl sub_nil) (sub_cons rfl (sub_cons rfl (sub_cons rfl (sub_cons rfl (sub_cons rfl (sub_cons rfl (sub_cons rfl (sub_cons rfl sub_nil)))))))) (fun _ h => by try dsimp only; exact subC_st h)
              · try dsimp only
                refine ⟨?_, hi117⟩
                rw [List.set_set, hD.cur_at hn, hi9]
                exact hD.doc hn hh hdx
              · try dsimp only
                show l.length - (n + 1) < l.length - n
                omega
        · skip
          try simp at hc5
          have hn : ¬ n < l.length := by omega
          have hres := hla2.2 _ _ (hD.done hn)
          refine t_exit ?_
          refine n_exit_then ?_
          refine n_exit_then ?_
          refine n_exit_block ?_
          refine n_then ?_
          refine t_seq ?_
          refine t_freezeT (f := tokC) (l := cur) v (fun _ => rfl) (fun Jf hJf hvf => ?_)
          refine t_qdraw mo (by kernel_rfl) (fun _ _ _ _ _ h => h) ?_
          refine s_q rfl rfl rfl (q_move rfl rfl) ?_
          refine s_q rfl rfl rfl (q_move rfl rfl) ?_
          refine s_q rfl rfl rfl (q_nilCheck rfl rfl) ?_
          refine s_q rfl rfl rfl (q_fieldAddr rfl Tryz.underlying130 rfl rfl ti3 rfl rfl) ?_
          refine s_q rfl rfl rfl ((by first | exact q_load_row rfl Tryz.underlying3 rfl rfl (by rfl) | exact q_load_vecF rfl Tryz.underlying3 rfl rfl (vec_at (fo := 0) (f := tokC) (d := tok0) (fun _ => rfl) (show n < cur.length by omega) rfl) | exact q_load_vecF rfl Tryz.underlying3 rfl rfl (vec_at (fo := 0) (f := tokC) (d := tok0) (fun _ => rfl) (show n - 1 < cur.length by omega) rfl) | exact q_load_vecF rfl Tryz.underlying3 rfl rfl (vec_at (fo := 1) (f := tokC) (d := tok0) (fun _ => rfl) (show n < cur.length by omega) rfl) | exact q_load_vecF rfl Tryz.underlying3 rfl rfl (vec_at (fo := 1) (f := tokC) (d := tok0) (fun _ => rfl) (show n - 1 < cur.length by omega) rfl) | exact q_load_vecF rfl Tryz.underlying3 rfl rfl (vec_at (fo := 2) (f := tokC) (d := tok0) (fun _ => rfl) (show n < cur.length by omega) rfl))) ?_
          refine s_q rfl rfl rfl (q_assign rfl rfl) ?_
          refine s_q rfl rfl rfl (q_assign rfl rfl) ?_
          refine s_q rfl rfl rfl (q_assign rfl rfl) ?_
          refine s_q rfl rfl rfl (q_assign rfl rfl) ?_
          refine s_done ?_
          refine n_then ?_
          refine t_ret ?_
          refine n_ret4 rfl rfl rfl rfl rfl (fun w' hw => ?_)
          -- leaf 4
          exact ⟨_, rfl, Jf, _, ⟨hJf, rfl, v, (by rw [hres]; rfl), (by rw [hres]; exact hvf)⟩, subC_st hw⟩
end Go.Tri

/-
  Quotes, names, numbers.
-/
namespace Go.Tri
open Go.Proofs Go.RowKit
open Go.Sort
theorem okN_eq (s : List UInt8) (i : Nat) : (!letterB (nth s i 0) && (decide ((i : Int) = 0) || decide (((nth s i 0).toNat : Int) < 48) || decide (57 < ((nth s i 0).toNat : Int)))) = !okN s i := by
  unfold okN digitB'
  by_cases h1 : (i : Int) = 0 <;> by_cases h2 : ((nth s i 0).toNat : Int) < 48 <;> by_cases h3 : 57 < ((nth s i 0).toNat : Int) <;> cases letterB (nth s i 0) <;> simp [h1, h2, h3] <;> omega
theorem okN_bad {s : List UInt8} {i : Nat} (h : (!letterB (nth s i 0) && (decide ((i : Int) = 0) || decide (((nth s i 0).toNat : Int) < 48) || decide (57 < ((nth s i 0).toNat : Int)))) = true) : okN s i = false := by
  rw [okN_eq] at h; simpa using h
theorem okN_good {s : List UInt8} {i : Nat} (h : (!letterB (nth s i 0) && (decide ((i : Int) = 0) || decide (((nth s i 0).toNat : Int) < 48) || decide (57 < ((nth s i 0).toNat : Int)))) = false) : okN s i = true := by
  rw [okN_eq] at h; simpa using h
def numRes (s : List UInt8) : Value := .tuple #[.int .i64 ((numB s).getD 0), .bool (numB s).isSome]
def ParseR (s : List UInt8) (v : Value) : Prop := ∃ n e, v = .tuple #[.int .i64 n, e] ∧ ErrIs e (numB s).isNone ∧ ∀ m, numB s = some m → n = m
theorem parse_X (s : List UInt8) (w : World) (hs : s.length ≤ 281474976710656) (hG : GW w) : PureX Tryz.prog 193 [str s, .int .i64 10, .int .i64 64] w (ParseR s) := by
  have hsz := size_str s
  have hdt : (⟨s.toArray⟩ : ByteArray).data.toList = s := by simp
  rcases parse_cases s with ⟨v, h1, h2⟩ | ⟨h1, h2 | h2⟩
  · refine (Tryz.strconv_ParseInt_10_at64_ok ⟨s.toArray⟩ (by omega) v (by rw [hdt]; exact h1) w).mono fun e w' ⟨h3, h4⟩ => ⟨_, h3, ⟨v, _, rfl, .inl ⟨by rw [h2]; rfl, rfl⟩, fun m hm => by rw [h2] at hm; cases hm; rfl⟩, ?_⟩
    rcases h4 with rfl | ⟨t, rfl⟩
    · exact Below.refl _ _
    · exact Go.Joins.below_bytesWorld _ _ _ _ (Nat.le_refl _)
  · obtain ⟨ev, hv, hev⟩ := hG.syn
    exact (Tryz.strconv_ParseInt_10_at64_syntax ⟨s.toArray⟩ (by omega) (by rw [hdt]; exact h2) ev w hv hev).mono fun e w' ⟨N, h3, _, _, h4⟩ => ⟨_, h3, ⟨_, _, rfl, .inr ⟨by rw [h1]; rfl, _, _, rfl⟩, fun m hm => by rw [h1] at hm; cases hm⟩, h4⟩
  · obtain ⟨ev, hv, hev⟩ := hG.rng
    exact (Tryz.strconv_ParseInt_10_at64_range ⟨s.toArray⟩ (by omega) (by rw [hdt]; exact h2) ev w hv hev).mono fun e w' ⟨N, h3, _, _, h4⟩ => ⟨_, h3, ⟨_, _, rfl, .inr ⟨by rw [h1]; rfl, _, _, rfl⟩, fun m hm => by rw [h1] at hm; cases hm⟩, h4⟩
theorem dd_len : ∀ k n : Nat, n < 10 ^ (k + 1) → (Lib.decDigits n).length ≤ k + 1
  | 0, n, h => by
    rw [digits_lt (by omega)]; simp
  | k + 1, n, h => by
    by_cases h1 : n < 10
    · rw [digits_lt h1]; simp
    · rw [digits_ge h1, List.length_append]
      have := dd_len k (n / 10) (by
        rw [Nat.div_lt_iff_lt_mul (by omega)]
        rw [Nat.pow_succ] at h; exact h)
      simp; omega
theorem dd_step {N u : Nat} {l : List UInt8} (h : Lib.decDigits N = Lib.decDigits u ++ l) (hu : ¬ u < 10) : Lib.decDigits N = Lib.decDigits (u / 10) ++ (UInt8.ofNat (48 + u % 10) :: l) := by
  rw [h, digits_ge hu]; simp
theorem dd_last {N u : Nat} {l : List UInt8} (h : Lib.decDigits N = Lib.decDigits u ++ l) (hu : u < 10) : Lib.decDigits N = UInt8.ofNat (48 + u % 10) :: l := by
  rw [h, digits_lt hu]; rfl
theorem itoa_eq (n : Int) : Lib.itoa n = if n < 0 then 45 :: Lib.decDigits n.natAbs else Lib.decDigits n.natAbs := by
  unfold Lib.itoa
  split
  · rfl
  · congr 1; omega
theorem numRes_none {s : List UInt8} (h : numB s = none) : numRes s = .tuple #[.int .i64 0, .bool false] := by unfold numRes; rw [h]; rfl
theorem numRes_some {s : List UInt8} {n : Int} (h : numB s = some n) : numRes s = .tuple #[.int .i64 n, .bool true] := by unfold numRes; rw [h]; rfl
set_option maxRecDepth 10000 in
theorem letter_pure (c : UInt8) (w : World) : Pure Tryz.prog 23 [u8 c] w (.bool (letterB c)) := by
  refine enter Tryz.func23 rfl Tryz.ntmps23 rfl (St.start w (look w) (Le.refl _)) ?_
  refine t_seq ?_
  refine t_region ?_
  refine l_q rfl rfl rfl (q_assign rfl rfl) ?_
  refine l_nil ?_
  refine n_then ?_
  refine t_seq ?_
  refine t_qreg ?_
  refine s_q rfl rfl rfl (q_move rfl rfl) ?_
  refine s_q rfl rfl rfl (q_or_u8 (d := 32) rfl rfl rfl) ?_
  refine s_q rfl rfl rfl (q_leq rfl rfl rfl) ?_
  refine s_q rfl rfl rfl (q_move rfl rfl) ?_
  refine s_and2 3 3 6 10 9 _ _ rfl rfl rfl rfl rfl rfl (fun h10 => by
      try simp at h10
      refine s_g rfl rfl rfl rfl rfl rfl (q_move rfl rfl) ?_
      refine s_g rfl rfl rfl rfl rfl rfl (q_or_u8 (d := 32) rfl rfl rfl) ?_
      refine s_g rfl rfl rfl rfl rfl rfl (q_leq rfl rfl rfl) ?_
      exact s_val rfl
    ) (wanted_n rfl) rfl rfl rfl ?_
  refine s_q rfl rfl rfl (q_move rfl rfl) ?_
  refine s_and2 2 8 11 14 13 _ _ rfl rfl rfl rfl rfl rfl (fun h14 => by
      try simp at h14
      refine s_g rfl rfl rfl rfl rfl rfl (q_move rfl rfl) ?_
      refine s_g rfl rfl rfl rfl rfl rfl (q_lss rfl rfl rfl) ?_
      exact s_val rfl
    ) (wanted_n rfl) rfl rfl rfl ?_
  refine s_q rfl rfl rfl (q_move rfl rfl) ?_
  refine s_or2 2 12 15 18 17 _ _ rfl rfl rfl rfl rfl rfl (fun h18 => by
      try simp at h18
      refine s_g rfl rfl rfl rfl rfl rfl (q_move rfl rfl) ?_
      refine s_g rfl rfl rfl rfl rfl rfl (q_eql_u8c rfl rfl rfl rfl) ?_
      exact s_val rfl
    ) (wanted_n rfl) rfl rfl rfl ?_
  refine s_q rfl rfl rfl (q_assign rfl rfl) ?_
  refine s_done ?_
  refine n_then ?_
  refine t_ret ?_
  refine n_ret1 rfl rfl (fun w' hw => ?_)
  -- leaf 0
  refine ⟨?_, hw.below⟩
  rw [← letter_or c]; rfl
set_option maxRecDepth 10000 in
theorem name_pure (s : List UInt8) (w : World) (hs : s.length ≤ 4611686018427387904) : Pure Tryz.prog 168 [str s] w (.bool (nameB s)) := by
  refine enter Tryz.func168 rfl Tryz.ntmps168 rfl (St.start w (look w) (Le.refl _)) ?_
  refine t_seq ?_
  refine t_region ?_
  refine l_q rfl rfl rfl (q_assign rfl rfl) ?_
  refine l_nil ?_
  refine n_then ?_
  refine t_seq ?_
  refine t_seq ?_
  refine t_region ?_
  refine l_q rfl rfl rfl (q_move rfl rfl) ?_
  refine l_e rfl rfl rfl (e_strBytes rfl Tryz.underlying9 Tryz.underlying67 Tryz.underlying5 rfl) ?_
  rintro v6 J6 _ ⟨hJ6, hs6, rfl⟩
  refine l_q rfl rfl rfl ((by first | exact q_lenV rfl Tryz.underlying67 rfl | exact q_len rfl Tryz.underlying67 rfl (Sl.lenOf hs6 (List.length_map _)))) ?_
  refine l_q rfl rfl rfl (q_move rfl rfl) ?_
  refine l_nil ?_
  refine n_then ?_
  refine t_block ?_
  refine t_loopE (ι := Nat) (fun i => i ≤ s.length ∧ ∀ k, k < i → okN s k = true) (fun i => s.length - i) (fun i => [(8, .int .i64 (i : Int))]) [(0, _), (6, _), (7, _)] (fun i => J6) (fun i => []) 0 ?_ (sub_cons rfl sub_nil) (sub_cons rfl (sub_cons rfl (sub_cons rfl sub_nil))) (fun _ h => subC_st h) ?_
  · try dsimp only
    exact ⟨Nat.zero_le _, fun k hk => absurd hk (Nat.not_lt_zero _)⟩
  rintro i ⟨hi, hok⟩
  refine t_seq ?_
  refine t_region ?_
  refine l_q rfl rfl rfl (q_lss rfl rfl rfl) ?_
  refine l_nil ?_
  refine n_then ?_
  refine t_seq ?_
  refine t_cond rfl (fun hc0 => ?_) (fun hc0 => ?_)
  · skip
    try simp at hc0
    refine t_skip ?_
    refine n_then ?_
    refine t_seq ?_
    refine t_block ?_
    refine t_seq ?_
    refine t_region ?_
    refine l_q rfl rfl rfl (q_move rfl rfl) ?_
    refine l_q rfl rfl rfl ((by first | exact q_indexAddrVN rfl Tryz.underlying67 ti5 rfl rfl (by omega) | exact q_indexAddrN rfl Tryz.underlying67 ti5 rfl rfl (Sl.shape hs6 (List.length_map _)) (by omega) | exact q_indexAddrV rfl Tryz.underlying67 ti5 rfl rfl (by omega) | exact q_indexAddr rfl Tryz.underlying67 ti5 rfl rfl (Sl.shape hs6 (List.length_map _)) (by omega))) ?_
    refine l_q rfl rfl rfl ((by first | exact q_load_row rfl Tryz.underlying5 rfl rfl (by rfl) | exact q_load rfl Tryz.underlying5 rfl rfl (rd_by hs6 (by omega)))) ?_
    refine l_q rfl rfl rfl (q_assign rfl rfl) ?_
    refine l_q rfl rfl rfl (q_assign rfl rfl) ?_
    refine l_nil ?_
    refine n_then ?_
    refine t_seq ?_
    refine t_qreg ?_
    refine s_q rfl rfl rfl (q_move rfl rfl) ?_
    refine s_q rfl rfl rfl (quiet_call rfl rfl rfl Tryz.func23 (by kernel_rfl) rfl ((fun w _ => letter_pure _ w))) ?_
    refine s_q rfl rfl rfl (q_not rfl rfl) ?_
    refine s_q rfl rfl rfl (q_move rfl rfl) ?_
    refine s_and2 10 3 16 27 26 _ _ rfl rfl rfl rfl rfl rfl (fun h27 => by
        try simp at h27
        refine s_g rfl rfl rfl rfl rfl rfl (q_move rfl rfl) ?_
        refine s_g rfl rfl rfl rfl rfl rfl (q_eql rfl rfl rfl) ?_
        refine s_g rfl rfl rfl rfl rfl rfl (q_move rfl rfl) ?_
        refine s_or2 2 6 19 22 21 _ _ rfl rfl rfl rfl rfl rfl (fun h22 => by
            try simp at h22
            refine s_g rfl rfl rfl rfl rfl rfl (q_move rfl rfl) ?_
            refine s_g rfl rfl rfl rfl rfl rfl (q_lss rfl rfl rfl) ?_
            exact s_val rfl
          ) (wanted_g rfl rfl rfl rfl) rfl rfl rfl ?_
        refine s_g rfl rfl rfl rfl rfl rfl (q_move rfl rfl) ?_
        refine s_or2 2 10 23 26 25 _ _ rfl rfl rfl rfl rfl rfl (fun h26 => by
            try simp at h26
            refine s_g rfl rfl rfl rfl rfl rfl (q_move rfl rfl) ?_
            refine s_g rfl rfl rfl rfl rfl rfl (q_gtr rfl rfl rfl) ?_
            exact s_val rfl
          ) (wanted_g rfl rfl rfl rfl) rfl rfl rfl ?_
        exact s_val rfl
      ) (wanted_n rfl) rfl rfl rfl ?_
    refine s_done ?_
    refine n_then ?_
    refine t_cond rfl (fun hc1 => ?_) (fun hc1 => ?_)
    · skip
      have hokk : okN s i = false := okN_bad hc1
      refine t_seq ?_
      refine t_region ?_
      refine l_q rfl rfl rfl (q_assign rfl rfl) ?_
      refine l_nil ?_
      refine n_then ?_
      refine t_ret ?_
      refine n_ret_block ?_
      refine n_ret_then ?_
      refine n_ret_then ?_
      refine n_ret_block ?_
      refine n_ret_then ?_
      refine n_ret1 rfl rfl (fun w' hw => ?_)
      -- leaf 0
      refine ⟨?_, (hw.less hJ6).below⟩
      rw [nameB_false (by omega) hokk]
    · skip
      have hokk : okN s i = true := okN_good hc1
      refine t_skip ?_
      refine n_block ?_
      refine n_then ?_
      refine t_region ?_
      refine l_q rfl rfl rfl (q_add64 rfl rfl rfl (by omega)) ?_
      refine l_q rfl rfl rfl (q_move rfl rfl) ?_
      refine l_nil ?_
      refine n_roundE (i + 1) ?_ ?_ (sub_cons rfl sub_nil) (sub_cons rfl (sub_cons rfl (sub_cons rfl sub_nil))) (fun _ h => by try dsimp only; exact subC_st h)
      · try dsimp only
        refine ⟨by omega, fun k hk => ?_⟩
        rcases Nat.lt_succ_iff_lt_or_eq.1 hk with h | rfl
        · exact hok k h
        · exact hokk
      · try dsimp only
        omega
  · skip
    try simp at hc0
    refine t_exit ?_
    refine n_exit_then ?_
    refine n_exit_then ?_
    refine n_exit_block ?_
    refine n_then ?_
    refine t_seq ?_
    refine t_region ?_
    refine l_q rfl rfl rfl (q_move rfl rfl) ?_
    refine l_q rfl rfl rfl (q_neq_str rfl rfl rfl) ?_
    refine l_q rfl rfl rfl (q_assign rfl rfl) ?_
    refine l_nil ?_
    refine n_then ?_
    refine t_ret ?_
    refine n_ret1 rfl rfl (fun w' hw => ?_)
    -- leaf 1
    refine ⟨?_, (hw.less hJ6).below⟩
    rw [nameB_all fun k hk => hok k (by omega)]
set_option maxRecDepth 10000 in
theorem number_pure (s : List UInt8) (w : World) (hs : s.length ≤ 281474976710656) (hG : GW w) : Pure Tryz.prog 186 [str s] w (numRes s) := by
  refine enter Tryz.func186 rfl Tryz.ntmps186 rfl (St.start w (look w) (Le.refl _)) ?_
  refine t_seq ?_
  refine t_region ?_
  refine l_q rfl rfl rfl (q_assign rfl rfl) ?_
  refine l_q rfl rfl rfl (q_assign rfl rfl) ?_
  refine l_nil ?_
  refine n_then ?_
  refine t_seq ?_
  refine t_seq ?_
  refine t_region ?_
  refine l_q rfl rfl rfl (q_move rfl rfl) ?_
  refine l_q rfl rfl rfl (quiet_call rfl rfl rfl Tryz.func127 (by kernel_rfl) rfl ((fun w _ => trim_pure s numSet w (by omega) (by decide) (by decide)))) ?_
  refine l_q rfl rfl rfl (q_neq_str rfl rfl rfl) ?_
  refine l_nil ?_
  refine n_then ?_
  refine t_cond rfl (fun hc0 => ?_) (fun hc0 => ?_)
  · skip
    refine t_seq ?_
    refine t_region ?_
    refine l_q rfl rfl rfl (q_assign rfl rfl) ?_
    refine l_q rfl rfl rfl (q_assign rfl rfl) ?_
    refine l_nil ?_
    refine n_then ?_
    refine t_ret ?_
    refine n_ret_then ?_
    refine n_ret2 rfl rfl rfl (fun w' hw => ?_)
    -- leaf 0
    refine ⟨?_, hw.below⟩
    rw [numRes_none (numB_trim (of_decide_eq_true hc0))]
  · skip
    refine t_skip ?_
    refine n_then ?_
    refine t_seq ?_
    refine t_region ?_
    refine l_q rfl rfl rfl (q_move rfl rfl) ?_
    refine l_e rfl rfl rfl (eff_callX rfl rfl rfl Tryz.func193 (by kernel_rfl) rfl (fun w hw => parse_X s w hs (hG.le hw.le))) ?_
    rintro _ _ _ ⟨⟨pn, pe, rfl, hpe, hpm⟩, rfl, rfl⟩
    refine l_q rfl rfl rfl (q_move rfl rfl) ?_
    refine l_q rfl rfl rfl (q_extract rfl rfl rfl) ?_
    refine l_q rfl rfl rfl (q_extract rfl rfl rfl) ?_
    refine l_q rfl rfl rfl (q_assign rfl rfl) ?_
    refine l_q rfl rfl rfl (q_assign rfl rfl) ?_
    refine l_nil ?_
    refine n_then ?_
    refine t_seq ?_
    refine t_seq ?_
    refine t_region ?_
    refine l_q rfl rfl rfl (q_move rfl rfl) ?_
    refine l_q rfl rfl rfl (q_neq_inil rfl (by kernel_rfl) rfl (by assumption)) ?_
    refine l_nil ?_
    refine n_then ?_
    refine t_cond rfl (fun hc1 => ?_) (fun hc1 => ?_)
    · skip
      refine t_seq ?_
      refine t_region ?_
      refine l_q rfl rfl rfl (q_assign rfl rfl) ?_
      refine l_q rfl rfl rfl (q_assign rfl rfl) ?_
      refine l_nil ?_
      refine n_then ?_
      refine t_ret ?_
      refine n_ret_then ?_
      refine n_ret2 rfl rfl rfl (fun w' hw => ?_)
      -- leaf 1
      refine ⟨?_, hw.below⟩
      rw [numRes_none (Option.isNone_iff_eq_none.1 hc1)]
    · skip
      refine t_skip ?_
      refine n_then ?_
      refine t_seq ?_
      refine t_region ?_
      refine l_q rfl rfl rfl (q_move rfl rfl) ?_
      refine l_q rfl rfl rfl (q_assign rfl rfl) ?_
      refine l_q rfl rfl rfl (q_assign rfl rfl) ?_
      refine l_nil ?_
      refine n_then ?_
      refine t_ret ?_
      refine n_ret2 rfl rfl rfl (fun w' hw => ?_)
      -- leaf 2
      refine ⟨?_, hw.below⟩
      cases hn : numB s with
      | none => rw [hn] at hc1; cases hc1
      | some m => rw [numRes_some hn, hpm m hn]; rfl
end Go.Tri
