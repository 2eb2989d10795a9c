/-
  A scanner: words and operators.
-/
import Derived.Test.YtomcodpgickmgaaGreatDoorQA3
import Derived.Test.YtomcodpgickmgaaGreatDoorQSh
import Derived.Test.YtomcodpgickmgaaGreatDoorPLex5
import Derived.Test.YtomcodpgickmgaaGreatDoorTriB20
import Derived.Shelf.Strings.SlTrimAscii
import Derived.Test.YtomcodpgickmgaaGreatDoorPAny
import Derived.Lib.IndexAny
namespace Go.Tri
open Go.Proofs Go.RowKit
/-- what the package variables hold -/
structure GW (w : World) : Prop where
  tab : Lib.TabIs Tryz.prog w "internal/strconv.uint64pow10" .u64 Lib.pow10Tab
  syn : ∃ ev, w.cell? ⟨6, 0, none⟩ = some ev ∧ (ev = .nilIface ∨ ∃ te pe, ev = .iface te pe)
  rng : ∃ ev, w.cell? ⟨7, 0, none⟩ = some ev ∧ (ev = .nilIface ∨ ∃ te pe, ev = .iface te pe)
  max : ∃ m, w.cell? ⟨0, 0, none⟩ = some (.int .i64 m)
theorem cell_le {w w' : World} (h : Le (look w) (look w')) {a : Addr} {v : Value} (hc : w.cell? a = some v) : w'.cell? a = some v := by
  unfold World.cell? at *
  cases hb : w.heap[a.block]? with
  | none => rw [hb] at hc; cases hc
  | some o => rw [hb] at hc; rw [show w'.heap[a.block]? = some o from h _ _ hb]; exact hc
theorem var_le {w w' : World} (h : Le (look w) (look w')) {P : Program} {n : String} {cs : Array Value} (hc : w.var? P n = some cs) : w'.var? P n = some cs := by
  unfold World.var? at *
  rw [Option.bind_eq_some_iff] at *
  obtain ⟨g, hg, hc⟩ := hc
  refine ⟨g, hg, ?_⟩
  cases hb : w.heap[g]? with
  | none => rw [hb] at hc; cases hc
  | some o => rw [hb] at hc; rw [show w'.heap[g]? = some o from h _ _ hb]; exact hc
theorem GW.le {w w' : World} (h : GW w) (k : Le (look w) (look w')) : GW w' where
  tab := var_le k h.tab
  syn := let ⟨ev, h1, h2⟩ := h.syn; ⟨ev, cell_le k h1, h2⟩
  rng := let ⟨ev, h1, h2⟩ := h.rng; ⟨ev, cell_le k h1, h2⟩
  max := let ⟨m, h1⟩ := h.max; ⟨m, cell_le k h1⟩
def EnvI (I : Look) : Prop := ∃ W0, GW W0 ∧ Le (look W0) I
theorem EnvI.mono {I J : Look} (h : EnvI I) (k : Le I J) : EnvI J := let ⟨W0, h1, h2⟩ := h; ⟨W0, h1, h2.trans k⟩
theorem EnvI.gw {w : World} (h : EnvI (look w)) : GW w := let ⟨_, h1, h2⟩ := h; h1.le h2
theorem EnvI.cell {w : World} (h : EnvI (look w)) : ∃ m, w.cell? ⟨0, 0, none⟩ = some (.int .i64 m) := h.gw.max
theorem contains_pure (s sub : List UInt8) (w : World) (hs : s.length ≤ 1000000000) (hG : EnvI (look w)) : Pure Tryz.prog 124 [str s, str sub] w (.bool (Lib.contains s sub)) := by
  obtain ⟨m, hm⟩ := hG.cell
  have hsz := size_str s
  refine (Tryz.strings_Contains ⟨s.toArray⟩ ⟨sub.toArray⟩ m w (by omega) hm).mono fun e w' ⟨h1, h2⟩ => ?_
  subst h2
  exact ⟨h1, Below.refl _ _⟩
theorem contains1_pure (s : List UInt8) (c : UInt8) (w : World) : Pure Tryz.prog 124 [str s, str [c]] w (.bool (hasB s c)) := by
  refine (Tryz.strings_Contains_one ⟨s.toArray⟩ c w).mono fun e w' ⟨h1, h2⟩ => ?_
  subst h2
  refine ⟨?_, Below.refl _ _⟩
  rw [h1, ← indexByte_has]
theorem trim_pure (s cs : List UInt8) (w : World) (hs : s.length ≤ 9223372036854775807) (hc : cs.length ≤ 1000) (ha : cs.all (fun b => decide (b.toNat < 128)) = true) : Pure Tryz.prog 127 [str s, str cs] w (str (Lib.trimS s cs)) := by
  have h1 := size_str s
  have h2 := size_str cs
  exact (Any.strings_Trim_laid Tryz.lays160 (by kernel_rfl) ⟨s.toArray⟩ ⟨cs.toArray⟩ w (by omega) (by omega) (ascii_of_all (l := cs) ha)).mono fun e w' ⟨h3, h4⟩ => ⟨h3, h4⟩
def tokC (t : Tok) : List Value := [.int .i64 (t.kind : Int), str t.text, .int .i64 (t.pos : Int), str t.doc, .bool t.raw]
theorem tokC_ones (t : Tok) : ∀ u ∈ tokC t, u.oneCell' = true := fun u hu => by
  simp only [tokC, List.mem_cons, List.not_mem_nil, or_false] at hu
  rcases hu with rfl | rfl | rfl | rfl | rfl <;> rfl
/-- what the scan for a token left behind -/
def TRel (i : Nat) (r : TR) (t : Tok) (ok : Bool) (i' a' e' : Nat) : Prop := match r with
  | .stop k => t = tok0 ∧ ok = false ∧ i' = i + k ∧ a' = 0 ∧ e' = 0
  | .tok off k kind text => t = ⟨kind, text, i + off, [], false⟩ ∧ ok = true ∧ i' = i + k ∧ a' = 0 ∧ e' = 0
  | .bad a e => t = tok0 ∧ ok = false ∧ a' = i + a ∧ e' = e
def TokC (f : FuncId) (T : TypeId) (b : Nat) (s : List UInt8) (i : Nat) (args : List Value) (r : TR) (I : Look) (F : List HA) (w : World) : Prop :=
  Calls Tryz.prog f (.pointer (some ⟨b, 0, none⟩) :: args).toArray w (fun e w' => ∃ v, e = .returned v ∧ ∃ I' H', (I = I' ∧ ∃ t ok i' a' e', v = .tuple #[.agg (tokC t).toArray, .bool ok] ∧ TRel i r t ok i' a' e' ∧ i' ≤ s.length ∧ H' = row b T (scC s i' a' e') :: F) ∧ St w I' H' w')
theorem special_has (c : UInt8) : decide (Lib.indexByte specials c < 0) = !hasB specials c := by
  rw [← indexByte_has]
  by_cases h : 0 ≤ Lib.indexByte specials c
  · rw [decide_eq_true h, decide_eq_false (by omega)]; rfl
  · rw [decide_eq_false h, decide_eq_true (by omega)]; rfl
theorem opAt_eq (l : List UInt8) (n : Nat) : (decide (((l.take n).length : Int) = (n : Int)) && Lib.contains opsS ([32] ++ l.take n ++ [32]) && !hasB (l.take n) 32) = opAt l n := by
  unfold opAt isOp
  rw [Bool.and_assoc]
  congr 1
  exact decide_eq_decide.2 (by omega)
theorem slice_n (s : List UInt8) (i n : Nat) : (s.drop ((i : Int)).toNat).take ((min ((i : Int) + (n : Int)) (s.length : Int)).toNat - ((i : Int)).toNat) = (s.drop i).take n := by
  rw [show ((i : Int)).toNat = i by omega]
  by_cases h : i + n ≤ s.length
  · congr 1; omega
  · rw [List.take_of_length_le (by rw [List.length_drop]; omega), List.take_of_length_le (by rw [List.length_drop]; omega)]
theorem slice_to (s : List UInt8) (i k : Nat) : (s.drop ((i : Int)).toNat).take ((((i + k : Nat)) : Int).toNat - ((i : Int)).toNat) = (s.drop i).take k := by
  rw [show ((i : Int)).toNat = i by omega]
  congr 1; omega
set_option maxRecDepth 10000 in
theorem word_calls (b : Nat) (s : List UInt8) (i : Nat) (I : Look) (F : List HA) (w0 w : World) (hs : s.length ≤ 2305843009213693952) (hi : i ≤ s.length) (hw0 : St w0 I (row b 130 (scC s i 0 0) :: F) w) : ScanC 125 130 b s i [] (wordP (s.drop i)) I F w := by
  refine enter Tryz.func125 rfl Tryz.ntmps125 rfl (hw0.self) ?_
  refine t_seq ?_
  refine t_region ?_
  refine l_q rfl rfl rfl (q_assign rfl rfl) ?_
  refine l_nil ?_
  refine n_then ?_
  refine t_seq ?_
  refine t_block ?_
  refine t_loopE (ι := Nat × Nat) (fun zz => i ≤ zz.1 ∧ zz.1 ≤ s.length ∧ wordP (s.drop i) = (wordL zz.2 (s.drop zz.1)).on (zz.1 - i) ∧ (s.drop zz.1).length ≤ zz.2) (fun zz => s.length - zz.1) (fun zz => []) [(0, _)] (fun zz => I) (fun zz => (row b 130 (scC s zz.1 0 0) :: F)) (i, (s.drop i).length) ?_ (sub_nil) (sub_cons rfl sub_nil) (fun _ h => subC_st h) ?_
  · try dsimp only
    refine ⟨Nat.le_refl _, hi, by rw [Nat.sub_self, SR.on_zero]; rfl, Nat.le_refl _⟩
  rintro ⟨j, g⟩ ⟨hj1, hj2, hx, hfl⟩
  try dsimp only at *
  refine t_seq ?_
  refine t_seq ?_
  refine t_qdraw mo (by kernel_rfl) (fun _ _ _ _ _ h => h) ?_
  refine s_q rfl rfl rfl (q_move rfl rfl) ?_
  refine s_q rfl rfl rfl (q_nilCheck rfl rfl) ?_
  refine s_q rfl rfl rfl (q_fieldAddr rfl Tryz.underlying130 rfl rfl ti3 rfl rfl) ?_
  refine s_q rfl rfl rfl (q_load_row rfl Tryz.underlying3 rfl rfl (by rfl)) ?_
  refine s_q rfl rfl rfl (q_move rfl rfl) ?_
  refine s_q rfl rfl rfl (q_nilCheck rfl rfl) ?_
  refine s_q rfl rfl rfl (q_fieldAddr rfl Tryz.underlying130 rfl rfl ti9 rfl rfl) ?_
  refine s_q rfl rfl rfl (q_load_row rfl Tryz.underlying9 rfl rfl (by rfl)) ?_
  refine s_q rfl rfl rfl (q_len_str rfl Tryz.underlying9 rfl) ?_
  refine s_q rfl rfl rfl (q_lss rfl rfl rfl) ?_
  refine s_q rfl rfl rfl (q_move rfl rfl) ?_
  refine s_and2 11 10 14 26 25 _ _ rfl rfl rfl rfl rfl rfl (fun h26 => by
      try simp at h26
      refine s_g rfl rfl rfl rfl rfl rfl (q_move rfl rfl) ?_
      refine s_g rfl rfl rfl rfl rfl rfl (q_nilCheck rfl rfl) ?_
      refine s_g rfl rfl rfl rfl rfl rfl (q_fieldAddr rfl Tryz.underlying130 rfl rfl ti9 rfl rfl) ?_
      refine s_g rfl rfl rfl rfl rfl rfl (q_load_row rfl Tryz.underlying9 rfl rfl (by rfl)) ?_
      refine s_g rfl rfl rfl rfl rfl rfl (q_move rfl rfl) ?_
      refine s_g rfl rfl rfl rfl rfl rfl (q_nilCheck rfl rfl) ?_
      refine s_g rfl rfl rfl rfl rfl rfl (q_fieldAddr rfl Tryz.underlying130 rfl rfl ti3 rfl rfl) ?_
      refine s_g rfl rfl rfl rfl rfl rfl (q_load_row rfl Tryz.underlying3 rfl rfl (by rfl)) ?_
      refine s_g rfl rfl rfl rfl rfl rfl ((by first | exact q_index_strN rfl Tryz.underlying9 rfl rfl (by omega) | exact q_index_str rfl Tryz.underlying9 rfl rfl (by omega))) ?_
      refine s_g rfl rfl rfl rfl rfl rfl (quiet_call rfl rfl rfl Tryz.func56 (by kernel_rfl) rfl ((fun w _ => indexByte_pure specials (nth s j 0) w))) ?_
      refine s_g rfl rfl rfl rfl rfl rfl (q_lss rfl rfl rfl) ?_
      exact s_val rfl
    ) (wanted_n rfl) rfl rfl rfl ?_
  refine s_done ?_
  refine n_then ?_
  refine t_cond rfl (fun hc0 => ?_) (fun hc0 => ?_)
  · skip
    have h0 : (decide ((j : Int) < (s.length : Int)) && decide (Lib.indexByte specials (nth s j 0) < 0)) = true := hc0
    rw [special_has, Bool.and_eq_true, decide_eq_true_eq, Bool.not_eq_true'] at h0
    have hj : j < s.length := by omega
    have hno := (word_step hx (drop_ne hj) hfl).2 (by rw [nth_drop_head]; exact h0.2)
    have hfit := wordStep_fit (drop_ne hj)
    refine t_skip ?_
    refine n_then ?_
    refine t_block ?_
    refine t_seq ?_
    refine t_region ?_
    refine l_q rfl rfl rfl (q_assign rfl rfl) ?_
    refine l_nil ?_
    refine n_then ?_
    refine t_cutE (ι := Bool × Nat × Nat × Nat) (fun zz => SRel j (wordStep (s.drop j)) zz.1 zz.2.1 zz.2.2.1 zz.2.2.2 ∧ zz.2.1 ≤ s.length) (fun zz => [(3, .bool zz.1)]) [(0, _), (26, _)] (fun zz => I) (fun zz => (row b 130 (scC s zz.2.1 zz.2.2.1 zz.2.2.2) :: F)) (sub_cons rfl (sub_cons rfl sub_nil)) ?_ ?_
    · skip
      refine t_seq ?_
      refine t_region ?_
      refine l_q rfl rfl rfl (q_move rfl rfl) ?_
      refine l_q rfl rfl rfl (quiet_call rfl rfl rfl Tryz.func100 (by kernel_rfl) rfl ((fun w hw => starts_pure b s [34] j 0 0 w (by omega) (rowed_of hw)))) ?_
      refine l_nil ?_
      refine n_then ?_
      refine t_cond rfl (fun hc1 => ?_) (fun hc1 => ?_)
      · skip
        refine t_region ?_
        refine l_q rfl rfl rfl (q_move rfl rfl) ?_
        refine l_e rfl rfl rfl (eff_call rfl rfl rfl Tryz.func151 (by kernel_rfl) rfl (fun w hw => (both_ok 24).1 b s j 1 _ _ _ w (by decide) (by decide) hs hj (picks_st1 (row b 130 (scC s j 0 0)) hw))) ?_
        rintro _ _ _ ⟨rfl, ok30, i30, a30, e30, rfl, hr30, hi30, rfl⟩
        refine l_q rfl rfl rfl (q_assign rfl rfl) ?_
        refine l_nil ?_
        refine n_cut ((ok30, i30, a30, e30)) ?_ (sub_cons rfl sub_nil) (sub_cons rfl (sub_cons rfl sub_nil)) (fun _ h => by try dsimp only; exact subC_st h)
        · try dsimp only
          exact ⟨by rw [wordStep, if_pos hc1]; exact hr30, hi30⟩
      · skip
        refine t_region ?_
        refine l_q rfl rfl rfl (q_move rfl rfl) ?_
        refine l_e rfl rfl rfl (eff_call rfl rfl rfl Tryz.func152 (by kernel_rfl) rfl (fun w hw => inside_calls 24 (both_ok 24).2 b s j 0 false true _ _ _ w (by decide) (by decide) hs hj (picks_st1 (row b 130 (scC s j 0 0)) hw))) ?_
        rintro _ _ _ ⟨rfl, ok32, i32, a32, e32, rfl, hr32, hi32, rfl⟩
        refine l_q rfl rfl rfl (q_assign rfl rfl) ?_
        refine l_nil ?_
        refine n_cut ((ok32, i32, a32, e32)) ?_ (sub_cons rfl sub_nil) (sub_cons rfl (sub_cons rfl sub_nil)) (fun _ h => by try dsimp only; exact subC_st h)
        · try dsimp only
          exact ⟨by rw [wordStep, if_neg (by rw [hc1]; simp)]; exact hr32, hi32⟩
    rintro ⟨ok3, i3, a3, e3⟩ ⟨hr3, hi3⟩
    try dsimp only at *
    refine t_seq ?_
    refine t_region ?_
    refine l_q rfl rfl rfl (q_move rfl rfl) ?_
    refine l_q rfl rfl rfl (q_not rfl rfl) ?_
    refine l_nil ?_
    refine n_then ?_
    refine t_cond rfl (fun hc2 => ?_) (fun hc2 => ?_)
    · skip
      have hk : ok3 = false := by simpa using hc2
      obtain ⟨a, h1, h2⟩ := hr3.f hk
      have h3 := hno.1 a e3 h1
      refine t_seq ?_
      refine t_region ?_
      refine l_q rfl rfl rfl (q_assign rfl rfl) ?_
      refine l_nil ?_
      refine n_then ?_
      refine t_ret ?_
      refine n_ret_block ?_
      refine n_ret_then ?_
      refine n_ret_block ?_
      refine n_ret_then ?_
      refine n_ret1 rfl rfl (fun w' hw => ?_)
      -- leaf 0
      exact ⟨_, rfl, I, _, ⟨rfl, false, i3, a3, e3, rfl, (by rw [h3]; exact ⟨rfl, (by omega), rfl⟩), hi3, rfl⟩, hw⟩
    · skip
      have hk : ok3 = true := by simpa using hc2
      obtain ⟨k, h1, rfl, rfl, rfl⟩ := hr3.t hk
      have h3 := hno.2 k h1
      rw [h1] at hfit
      rw [List.drop_drop] at h3
      refine t_skip ?_
      refine n_block ?_
      refine n_roundE ((j + k, g - 1)) ?_ ?_ (sub_nil) (sub_cons rfl sub_nil) (fun _ h => by try dsimp only; exact subC_st h)
      · try dsimp only
        have h4 : 1 ≤ k := hfit.1
        refine ⟨by omega, hi3, by rw [h3]; congr 1; omega, ?_⟩
        rw [List.length_drop] at hfl ⊢
        omega
      · try dsimp only
        have h4 : 1 ≤ k := hfit.1
        show s.length - (j + k) < s.length - j
        omega
  · skip
    have h0 : (decide ((j : Int) < (s.length : Int)) && decide (Lib.indexByte specials (nth s j 0) < 0)) = false := hc0
    rw [special_has] at h0
    have hend : wordP (s.drop i) = .ok (j - i) := by
      by_cases hj : j < s.length
      · rw [decide_eq_true (by omega), Bool.true_and] at h0
        exact (word_step hx (drop_ne hj) hfl).1 (by rw [nth_drop_head]; simpa using h0)
      · rw [hx, List.drop_of_length_le (by omega), wordL_end]; rfl
    refine t_exit ?_
    refine n_exit_then ?_
    refine n_exit_then ?_
    refine n_exit_block ?_
    refine n_then ?_
    refine t_seq ?_
    refine t_region ?_
    refine l_q rfl rfl rfl (q_assign rfl rfl) ?_
    refine l_nil ?_
    refine n_then ?_
    refine t_ret ?_
    refine n_ret1 rfl rfl (fun w' hw => ?_)
    -- leaf 1
    exact ⟨_, rfl, I, _, ⟨rfl, true, j, 0, 0, rfl, (by rw [hend]; exact ⟨rfl, (by omega), rfl, rfl⟩), (by omega), rfl⟩, hw⟩
set_option maxRecDepth 10000 in
theorem operator_pure (b : Nat) (s : List UInt8) (i : Nat) (w : World) (hs : s.length ≤ 2305843009213693952) (hi : i ≤ s.length) (hb : Rowed w b (scC s i 0 0)) (hG : EnvI (look w)) : Pure Tryz.prog 102 [.pointer (some ⟨b, 0, none⟩)] w (str (opP (s.drop i))) := by
  refine enter Tryz.func102 rfl Tryz.ntmps102 rfl (St.start w (look w) (Le.refl _)) ?_
  refine t_seq ?_
  refine t_region ?_
  refine l_q rfl rfl rfl (q_assign rfl rfl) ?_
  refine l_nil ?_
  refine n_then ?_
  refine t_seq ?_
  refine t_seq ?_
  refine t_region ?_
  refine l_q rfl rfl rfl (q_assign rfl rfl) ?_
  refine l_nil ?_
  refine n_then ?_
  refine t_block ?_
  refine t_loopE (ι := Nat) (fun zz => zz ≤ 3 ∧ opP (s.drop i) = opN zz (s.drop i)) (fun zz => zz) (fun zz => [(3, .int .i64 (zz : Int))]) [(0, _)] (fun zz => look w) (fun zz => []) 3 ?_ (sub_cons rfl sub_nil) (sub_cons rfl sub_nil) (fun _ h => subC_st h) ?_
  · try dsimp only
    exact ⟨Nat.le_refl _, rfl⟩
  rintro n ⟨hn, hx⟩
  try dsimp only at *
  refine t_seq ?_
  refine t_seq ?_
  refine t_region ?_
  refine l_q rfl rfl rfl (q_move rfl rfl) ?_
  refine l_q rfl rfl rfl (q_gtr rfl rfl rfl) ?_
  refine l_nil ?_
  refine n_then ?_
  refine t_cond rfl (fun hc0 => ?_) (fun hc0 => ?_)
  · skip
    try simp at hc0
    refine t_skip ?_
    refine n_then ?_
    refine t_seq ?_
    refine t_block ?_
    refine t_seq ?_
    refine t_qdraw mo (by kernel_rfl) (fun _ _ _ _ _ h => h) ?_
    refine s_q rfl rfl rfl (q_move rfl rfl) ?_
    refine s_q rfl rfl rfl (q_nilCheck rfl rfl) ?_
    refine s_q rfl rfl rfl (q_fieldAddr rfl Tryz.underlying130 rfl rfl ti9 rfl rfl) ?_
    refine s_q rfl rfl rfl ((by first | exact q_load_row rfl Tryz.underlying9 rfl rfl (by rfl) | exact q_load rfl Tryz.underlying9 rfl rfl (rd_imm (hb 0 _ rfl)) | exact q_load rfl Tryz.underlying9 rfl rfl (rd_imm (hb 1 _ rfl)))) ?_
    refine s_q rfl rfl rfl (q_move rfl rfl) ?_
    refine s_q rfl rfl rfl (q_nilCheck rfl rfl) ?_
    refine s_q rfl rfl rfl (q_fieldAddr rfl Tryz.underlying130 rfl rfl ti3 rfl rfl) ?_
    refine s_q rfl rfl rfl ((by first | exact q_load_row rfl Tryz.underlying3 rfl rfl (by rfl) | exact q_load rfl Tryz.underlying3 rfl rfl (rd_imm (hb 0 _ rfl)) | exact q_load rfl Tryz.underlying3 rfl rfl (rd_imm (hb 1 _ rfl)))) ?_
    refine s_q rfl rfl rfl (q_move rfl rfl) ?_
    refine s_q rfl rfl rfl (q_nilCheck rfl rfl) ?_
    refine s_q rfl rfl rfl (q_fieldAddr rfl Tryz.underlying130 rfl rfl ti3 rfl rfl) ?_
    refine s_q rfl rfl rfl ((by first | exact q_load_row rfl Tryz.underlying3 rfl rfl (by rfl) | exact q_load rfl Tryz.underlying3 rfl rfl (rd_imm (hb 0 _ rfl)) | exact q_load rfl Tryz.underlying3 rfl rfl (rd_imm (hb 1 _ rfl)))) ?_
    refine s_q rfl rfl rfl (q_move rfl rfl) ?_
    refine s_q rfl rfl rfl (q_add64 rfl rfl rfl (by omega)) ?_
    refine s_q rfl rfl rfl (q_move rfl rfl) ?_
    refine s_q rfl rfl rfl (q_nilCheck rfl rfl) ?_
    refine s_q rfl rfl rfl (q_fieldAddr rfl Tryz.underlying130 rfl rfl ti9 rfl rfl) ?_
    refine s_q rfl rfl rfl ((by first | exact q_load_row rfl Tryz.underlying9 rfl rfl (by rfl) | exact q_load rfl Tryz.underlying9 rfl rfl (rd_imm (hb 0 _ rfl)) | exact q_load rfl Tryz.underlying9 rfl rfl (rd_imm (hb 1 _ rfl)))) ?_
    refine s_q rfl rfl rfl (q_len_str rfl Tryz.underlying9 rfl) ?_
    refine s_q rfl rfl rfl (q_min rfl rfl rfl) ?_
    refine s_q rfl rfl rfl (q_slice_str rfl Tryz.underlying9 rfl rfl rfl (by omega)) ?_
    rw [slice_n s i n]
    refine s_q rfl rfl rfl (q_assign rfl rfl) ?_
    refine s_done ?_
    refine n_then ?_
    refine t_seq ?_
    have htl : ((s.drop i).take n).length ≤ 3 := by rw [List.length_take]; omega
    refine t_qreg ?_
    refine s_q rfl rfl rfl (q_move rfl rfl) ?_
    refine s_q rfl rfl rfl (q_len_str rfl Tryz.underlying9 rfl) ?_
    refine s_q rfl rfl rfl (q_move rfl rfl) ?_
    refine s_q rfl rfl rfl (q_eql rfl rfl rfl) ?_
    refine s_q rfl rfl rfl (q_move rfl rfl) ?_
    refine s_and2 4 4 34 39 38 _ _ rfl rfl rfl rfl rfl rfl (fun h39 => by
        try simp at h39
        refine s_g rfl rfl rfl rfl rfl rfl (q_move rfl rfl) ?_
        refine s_g rfl rfl rfl rfl rfl rfl (q_cat rfl rfl rfl (by first | omega | (simp only [List.length_append, List.length_cons, List.length_nil, List.length_take, List.length_drop]; omega))) ?_
        refine s_g rfl rfl rfl rfl rfl rfl (q_cat rfl rfl rfl (by first | omega | (simp only [List.length_append, List.length_cons, List.length_nil, List.length_take, List.length_drop]; omega))) ?_
        refine s_g rfl rfl rfl rfl rfl rfl (quiet_call rfl rfl rfl Tryz.func124 (by kernel_rfl) rfl ((fun w hw => contains_pure opsS ([32] ++ (s.drop i).take n ++ [32]) w (by decide) (hG.mono hw.le)))) ?_
        exact s_val rfl
      ) (wanted_n rfl) rfl rfl rfl ?_
    refine s_q rfl rfl rfl (q_move rfl rfl) ?_
    refine s_and2 3 10 40 44 43 _ _ rfl rfl rfl rfl rfl rfl (fun h44 => by
        try simp at h44
        refine s_g rfl rfl rfl rfl rfl rfl (q_move rfl rfl) ?_
        refine s_g rfl rfl rfl rfl rfl rfl (quiet_call rfl rfl rfl Tryz.func124 (by kernel_rfl) rfl ((fun w _ => contains1_pure ((s.drop i).take n) 32 w))) ?_
        refine s_g rfl rfl rfl rfl rfl rfl (q_not rfl rfl) ?_
        exact s_val rfl
      ) (wanted_n rfl) rfl rfl rfl ?_
    refine s_done ?_
    refine n_then ?_
    refine t_cond rfl (fun hc1 => ?_) (fun hc1 => ?_)
    · skip
      have h1 : opAt (s.drop i) n = true := by rw [← opAt_eq]; exact hc1
      refine t_seq ?_
      refine t_region ?_
      refine l_q rfl rfl rfl (q_move rfl rfl) ?_
      refine l_q rfl rfl rfl (q_assign rfl rfl) ?_
      refine l_nil ?_
      refine n_then ?_
      refine t_ret ?_
      refine n_ret_block ?_
      refine n_ret_then ?_
      refine n_ret_then ?_
      refine n_ret_block ?_
      refine n_ret_then ?_
      refine n_ret1 rfl rfl (fun w' hw => ?_)
      -- leaf 0
      refine ⟨?_, hw.below⟩
      obtain ⟨m, rfl⟩ : ∃ m, n = m + 1 := ⟨n - 1, by omega⟩
      rw [hx, opN, if_pos h1]
    · skip
      have h1 : opAt (s.drop i) n = false := by rw [← opAt_eq]; exact hc1
      refine t_skip ?_
      refine n_block ?_
      refine n_then ?_
      refine t_region ?_
      refine l_q rfl rfl rfl (q_move rfl rfl) ?_
      refine l_q rfl rfl rfl (q_sub64 rfl rfl rfl (by omega)) ?_
      refine l_q rfl rfl rfl (q_assign rfl rfl) ?_
      refine l_nil ?_
      refine n_roundE (n - 1) ?_ ?_ (sub_cons' rfl (congrArg (Value.int IntKind.i64) (by omega)) (sub_nil)) (sub_cons rfl sub_nil) (fun _ h => by try dsimp only; exact subC_st h)
      · try dsimp only
        refine ⟨by omega, ?_⟩
        obtain ⟨m, rfl⟩ : ∃ m, n = m + 1 := ⟨n - 1, by omega⟩
        rw [hx, opN, if_neg (fun h => by rw [h] at h1; cases h1)]; rfl
      · try dsimp only
        omega
  · skip
    try simp at hc0
    refine t_exit ?_
    refine n_exit_then ?_
    refine n_exit_then ?_
    refine n_exit_block ?_
    refine n_then ?_
    refine t_seq ?_
    refine t_region ?_
    refine l_q rfl rfl rfl (q_assign rfl rfl) ?_
    refine l_nil ?_
    refine n_then ?_
    refine t_ret ?_
    refine n_ret1 rfl rfl (fun w' hw => ?_)
    -- leaf 1
    refine ⟨?_, hw.below⟩
    obtain rfl : n = 0 := by omega
    rw [hx]; rfl
set_option maxRecDepth 10000 in
theorem rest_calls (b : Nat) (s : List UInt8) (i : Nat) (I : Look) (F : List HA) (w0 w : World) (hs : s.length ≤ 2305843009213693952) (hi : i ≤ s.length) (hw0 : St w0 I (row b 130 (scC s i 0 0) :: F) w) : TokC 103 130 b s i [.int .i64 (i : Int)] (restP (s.drop i)) I F w := by
  refine enter Tryz.func103 rfl Tryz.ntmps103 rfl (hw0.self) ?_
  refine t_seq ?_
  refine t_region ?_
  refine l_e rfl rfl rfl (e_alloc rfl ti79 rfl) ?_
  rintro _ _ _ ⟨b4, rfl, rfl, rfl⟩
  refine l_heap (H' := row b4 79 (tokC tok0) :: _) ?_ (fun _ h => h)
  refine l_q rfl rfl rfl (q_assign rfl rfl) ?_
  refine l_nil ?_
  refine n_then ?_
  refine t_seq ?_
  refine t_seq ?_
  refine t_region ?_
  refine l_q rfl rfl rfl (q_move rfl rfl) ?_
  refine l_e rfl rfl rfl (eff_call rfl rfl rfl Tryz.func125 (by kernel_rfl) rfl (fun w hw => word_calls b s i _ _ _ w hs hi (picks_st1 (row b 130 (scC s i 0 0)) hw))) ?_
  rintro _ _ _ ⟨rfl, ok8, i8, a8, e8, rfl, hr8, hi8, rfl⟩
  refine l_q rfl rfl rfl (q_not rfl rfl) ?_
  refine l_nil ?_
  refine n_then ?_
  refine t_cond rfl (fun hc0 => ?_) (fun hc0 => ?_)
  · skip
    have hk : ok8 = false := by simpa using hc0
    obtain ⟨a, h1, rfl⟩ := hr8.f hk
    refine t_seq ?_
    refine t_region ?_
    refine l_q rfl rfl rfl (q_build (pl := [(_, _), (_, _), (_, _), (_, _), (_, _)]) (cs := (tokC tok0).toArray) rfl Tryz.underlying79 ti79 ⟨rfl, ⟨_, _, ti3⟩, rfl, ⟨_, _, ti9⟩, rfl, ⟨_, _, ti3⟩, rfl, ⟨_, _, ti9⟩, rfl, ⟨_, _, ti4⟩, trivial⟩ rfl rfl) ?_
    refine l_e0 rfl rfl ((by first | exact e_store_all rfl ti79 rfl rfl rfl (by first | exact chC_ones _ | exact pcC_ones _ | exact tokC_ones _ | simp [Value.oneCell', str, u8]) rfl | exact e_store_agg rfl ti79 rfl rfl rfl (by first | exact chC_ones _ | exact pcC_ones _ | exact tokC_ones _ | simp [Value.oneCell', str, u8]) rfl)) ?_
    rintro _ _ _ ⟨rfl, rfl⟩
    refine l_q rfl rfl rfl (q_assign rfl rfl) ?_
    refine l_nil ?_
    refine n_then ?_
    refine t_ret ?_
    refine n_ret_then ?_
    refine n_retGG (.inl rfl) rfl (by exact rg_row rfl Tryz.underlying79 ti79 rfl rfl (rg_tmp rfl (rg_nil))) (fun w' hw => ?_)
    -- leaf 0
    exact ⟨_, rfl, I, _, ⟨rfl, tok0, false, i8, (i + a), e8, rfl, (by rw [restP, h1]; exact ⟨rfl, rfl, rfl, rfl⟩), hi8, rfl⟩, subC_st hw⟩
  · skip
    have hk : ok8 = true := by simpa using hc0
    obtain ⟨k, h1, rfl, rfl, rfl⟩ := hr8.t hk
    have hkl : ((s.drop i).take k).length = k := by rw [List.length_take, List.length_drop]; omega
    refine t_skip ?_
    refine n_then ?_
    refine t_seq ?_
    refine t_draw [12, 13] [] [row b 130 (scC s (i + k) 0 0)] mo (by kernel_rfl) (fun _ _ _ _ _ h => h) ?_
    refine r_q0 0 (by kernel_rfl) rfl (Le.refl _) rfl rfl rfl (fun _ hI => q_move rfl rfl) ?_
    refine r_q0 1 (by kernel_rfl) rfl (Le.refl _) rfl rfl rfl (fun _ hI => q_nilCheck rfl rfl) ?_
    refine r_q0 2 (by kernel_rfl) rfl (Le.refl _) rfl rfl rfl (fun _ hI => q_fieldAddr rfl Tryz.underlying130 rfl rfl ti9 rfl rfl) ?_
    refine r_q0 3 (by kernel_rfl) rfl (Le.refl _) rfl rfl rfl (fun _ hI => q_load_row rfl Tryz.underlying9 rfl rfl (by rfl)) ?_
    refine r_q0 4 (by kernel_rfl) rfl (Le.refl _) rfl rfl rfl (fun _ hI => q_move rfl rfl) ?_
    refine r_q0 5 (by kernel_rfl) rfl (Le.refl _) rfl rfl rfl (fun _ hI => q_move rfl rfl) ?_
    refine r_q0 6 (by kernel_rfl) rfl (Le.refl _) rfl rfl rfl (fun _ hI => q_nilCheck rfl rfl) ?_
    refine r_q0 7 (by kernel_rfl) rfl (Le.refl _) rfl rfl rfl (fun _ hI => q_fieldAddr rfl Tryz.underlying130 rfl rfl ti3 rfl rfl) ?_
    refine r_q0 8 (by kernel_rfl) rfl (Le.refl _) rfl rfl rfl (fun _ hI => q_load_row rfl Tryz.underlying3 rfl rfl (by rfl)) ?_
    refine r_q0 9 (by kernel_rfl) rfl (Le.refl _) rfl rfl rfl (fun _ hI => q_slice_str rfl Tryz.underlying9 rfl rfl rfl (by omega)) ?_
    rw [slice_to s i k]
    refine r_q0 10 (by kernel_rfl) rfl (Le.refl _) rfl rfl rfl (fun _ hI => q_move rfl rfl) ?_
    refine r_q0 11 (by kernel_rfl) rfl (Le.refl _) rfl rfl rfl (fun _ hI => q_build (pl := [(_, _), (_, _), (_, _), (_, _), (_, _)]) (cs := (tokC ⟨1, (s.drop i).take k, i, [], false⟩).toArray) rfl Tryz.underlying79 ti79 ⟨rfl, ⟨_, _, ti3⟩, rfl, ⟨_, _, ti9⟩, rfl, ⟨_, _, ti3⟩, rfl, ⟨_, _, ti9⟩, rfl, ⟨_, _, ti4⟩, trivial⟩ rfl rfl) ?_
    refine r_e 12 (by kernel_rfl) (by kernel_rfl) rfl (Le.refl _) rfl rfl rfl (e_alloc rfl ti79 rfl) ?_
    rintro _ _ _ ⟨b6, rfl, rfl, rfl⟩
    refine ⟨Le.refl _, .inr SubC.sub, ?_⟩
    refine r_e0 13 (by kernel_rfl) (by kernel_rfl) rfl (Le.refl _) rfl rfl ((by first | exact e_store_all rfl ti79 rfl rfl rfl (by first | exact chC_ones _ | exact pcC_ones _ | exact tokC_ones _ | simp [Value.oneCell', str, u8]) rfl | exact e_store_agg rfl ti79 rfl rfl rfl (by first | exact chC_ones _ | exact pcC_ones _ | exact tokC_ones _ | simp [Value.oneCell', str, u8]) rfl)) ?_
    rintro _ _ _ ⟨rfl, rfl⟩
    refine ⟨Le.refl _, .inr SubC.sub, ?_⟩
    refine r_end (by kernel_rfl) ?_
    refine n_then ?_
    refine t_seq ?_
    refine t_seq ?_
    refine t_region ?_
    refine l_q rfl rfl rfl (q_fieldAddr rfl Tryz.underlying79 rfl rfl ti9 rfl rfl) ?_
    refine l_q rfl rfl rfl (q_load_row rfl Tryz.underlying9 rfl rfl (by rfl)) ?_
    refine l_q rfl rfl rfl (q_len_str rfl Tryz.underlying9 rfl) ?_
    refine l_q rfl rfl rfl (q_gtr rfl rfl rfl) ?_
    refine l_nil ?_
    refine n_then ?_
    refine t_cond rfl (fun hc1 => ?_) (fun hc1 => ?_)
    · skip
      try simp at hc1
      have h4 : 4096 < k := by omega
      refine t_seq ?_
      refine t_region ?_
      refine l_q rfl rfl rfl (q_move rfl rfl) ?_
      refine l_q rfl rfl rfl (q_move rfl rfl) ?_
      refine l_e rfl rfl rfl (eff_call rfl rfl rfl Tryz.func126 (by kernel_rfl) rfl (fun w hw => fail_calls b s (i + k) i 51 _ _ _ w (picks_st1 (row b 130 (scC s (i + k) 0 0)) hw))) ?_
      rintro _ _ _ ⟨rfl, rfl, rfl⟩
      refine l_nil ?_
      refine n_then ?_
      refine t_seq ?_
      refine t_region ?_
      refine l_q rfl rfl rfl (q_build (pl := [(_, _), (_, _), (_, _), (_, _), (_, _)]) (cs := (tokC tok0).toArray) rfl Tryz.underlying79 ti79 ⟨rfl, ⟨_, _, ti3⟩, rfl, ⟨_, _, ti9⟩, rfl, ⟨_, _, ti3⟩, rfl, ⟨_, _, ti9⟩, rfl, ⟨_, _, ti4⟩, trivial⟩ rfl rfl) ?_
      refine l_e0 rfl rfl ((by first | exact e_store_all rfl ti79 rfl rfl rfl (by first | exact chC_ones _ | exact pcC_ones _ | exact tokC_ones _ | simp [Value.oneCell', str, u8]) rfl | exact e_store_agg rfl ti79 rfl rfl rfl (by first | exact chC_ones _ | exact pcC_ones _ | exact tokC_ones _ | simp [Value.oneCell', str, u8]) rfl)) ?_
      rintro _ _ _ ⟨rfl, rfl⟩
      refine l_q rfl rfl rfl (q_assign rfl rfl) ?_
      refine l_nil ?_
      refine n_then ?_
      refine t_ret ?_
      refine n_ret_then ?_
      refine n_retGG (.inl rfl) rfl (by exact rg_row rfl Tryz.underlying79 ti79 rfl rfl (rg_tmp rfl (rg_nil))) (fun w' hw => ?_)
      -- leaf 1
      exact ⟨_, rfl, I, _, ⟨rfl, tok0, false, (i + k), i, 51, rfl, (by rw [restP, h1]; simp only [if_pos h4]; exact ⟨rfl, rfl, rfl, rfl⟩), hi8, rfl⟩, subC_st hw⟩
    · skip
      try simp at hc1
      have h4 : ¬ 4096 < k := by omega
      refine t_skip ?_
      refine n_then ?_
      refine t_cutE (ι := Nat) (fun zz => zz = if numberB (s.drop i) k then 4 else 1) (fun zz => []) [(0, _), (1, _), (4, _), (5, _), (9, _), (6, _), (26, _)] (fun zz => I) (fun zz => (row b6 79 (tokC ⟨zz, (s.drop i).take k, i, [], false⟩) :: row b4 79 (tokC tok0) :: row b 130 (scC s (i + k) 0 0) :: F)) (sub_cons rfl (sub_cons rfl (sub_cons rfl (sub_cons rfl (sub_cons rfl (sub_cons rfl (sub_cons rfl sub_nil))))))) ?_ ?_
      · skip
        refine t_seq ?_
        refine t_qreg ?_
        refine s_q rfl rfl rfl (q_fieldAddr rfl Tryz.underlying79 rfl rfl ti9 rfl rfl) ?_
        refine s_q rfl rfl rfl (q_load_row rfl Tryz.underlying9 rfl rfl (by rfl)) ?_
        refine s_q rfl rfl rfl (quiet_call rfl rfl rfl Tryz.func127 (by kernel_rfl) rfl ((fun w _ => trim_pure ((s.drop i).take k) digitsS w (by rw [List.length_take, List.length_drop]; omega) (by decide) (by decide)))) ?_
        refine s_q rfl rfl rfl (q_eql_str rfl rfl rfl) ?_
        refine s_q rfl rfl rfl (q_move rfl rfl) ?_
        refine s_and2 6 4 35 42 41 _ _ rfl rfl rfl rfl rfl rfl (fun h42 => by
            try simp at h42
            refine s_g rfl rfl rfl rfl rfl rfl (q_move rfl rfl) ?_
            refine s_g rfl rfl rfl rfl rfl rfl (quiet_call rfl rfl rfl Tryz.func100 (by kernel_rfl) rfl ((fun w hw => starts_pure b s [60] (i + k) 0 0 w (by omega) (rowed_of hw)))) ?_
            refine s_g rfl rfl rfl rfl rfl rfl (q_move rfl rfl) ?_
            refine s_or2 2 7 38 41 40 _ _ rfl rfl rfl rfl rfl rfl (fun h41 => by
                try simp at h41
                refine s_g rfl rfl rfl rfl rfl rfl (q_move rfl rfl) ?_
                refine s_g rfl rfl rfl rfl rfl rfl (quiet_call rfl rfl rfl Tryz.func100 (by kernel_rfl) rfl ((fun w hw => starts_pure b s [62] (i + k) 0 0 w (by omega) (rowed_of hw)))) ?_
                exact s_val rfl
              ) (wanted_g rfl rfl rfl rfl) rfl rfl rfl ?_
            exact s_val rfl
          ) (wanted_n rfl) rfl rfl rfl ?_
        refine s_done ?_
        refine n_then ?_
        refine t_cond rfl (fun hc2 => ?_) (fun hc2 => ?_)
        · skip
          have hnum : numberB (s.drop i) k = true := by rw [numberB, List.drop_drop]; exact hc2
          refine t_region ?_
          refine l_q rfl rfl rfl (q_fieldAddr rfl Tryz.underlying79 rfl rfl ti3 rfl rfl) ?_
          refine l_e0 rfl rfl (e_storeS rfl ti3 rfl rfl (by first | exact ⟨rfl, rfl⟩ | assumption) rfl (by first | (simp only [List.set_cons_succ, List.set_cons_zero]; rfl) | rfl)) ?_
          rintro _ _ _ ⟨rfl, rfl⟩
          refine l_heap (H' := row b6 79 (tokC ⟨4, (s.drop i).take k, i, [], false⟩) :: _) ?_ (fun _ h => h)
          refine l_nil ?_
          refine n_cut (4) ?_ (sub_nil) (sub_cons rfl (sub_cons rfl (sub_cons rfl (sub_cons rfl (sub_cons rfl (sub_cons rfl (sub_cons rfl sub_nil))))))) (fun _ h => by try dsimp only; exact subC_st h)
          · try dsimp only
            rw [hnum, if_pos rfl]
        · skip
          have hnum : numberB (s.drop i) k = false := by rw [numberB, List.drop_drop]; exact hc2
          refine t_skip ?_
          refine n_cut (1) ?_ (sub_nil) (sub_cons rfl (sub_cons rfl (sub_cons rfl (sub_cons rfl (sub_cons rfl (sub_cons rfl (sub_cons rfl sub_nil))))))) (fun _ h => by try dsimp only; exact subC_st h)
          · try dsimp only
            rw [hnum, if_neg (by simp)]
      rintro kd hkd
      try dsimp only at *
      refine t_seq ?_
      refine t_region ?_
      refine l_q rfl rfl rfl (q_load_rowA rfl Tryz.underlying79 ti79 rfl rfl rfl) ?_
      refine l_e0 rfl rfl ((by first | exact e_store_all rfl ti79 rfl rfl rfl (by first | exact chC_ones _ | exact pcC_ones _ | exact tokC_ones _ | simp [Value.oneCell', str, u8]) rfl | exact e_store_agg rfl ti79 rfl rfl rfl (by first | exact chC_ones _ | exact pcC_ones _ | exact tokC_ones _ | simp [Value.oneCell', str, u8]) rfl)) ?_
      rintro _ _ _ ⟨rfl, rfl⟩
      refine l_q rfl rfl rfl (q_assign rfl rfl) ?_
      refine l_nil ?_
      refine n_then ?_
      refine t_ret ?_
      refine n_retGG (.inl rfl) rfl (by exact rg_row rfl Tryz.underlying79 ti79 rfl rfl (rg_tmp rfl (rg_nil))) (fun w' hw => ?_)
      -- leaf 2
      exact ⟨_, rfl, I, _, ⟨rfl, ⟨kd, (s.drop i).take k, i, [], false⟩, true, (i + k), 0, 0, rfl, (by rw [restP, h1]; simp only [if_neg h4, ← hkd]; exact ⟨rfl, rfl, rfl, rfl, rfl⟩), hi8, rfl⟩, subC_st hw⟩
end Go.Tri

/-
  A scanner: tokens.
-/
namespace Go.Tri
open Go.Proofs Go.RowKit
theorem TRel.on {i j : Nat} {r : TR} {t : Tok} {ok : Bool} {i' a' e' : Nat} (h : TRel j r t ok i' a' e') (hij : i ≤ j) : TRel i (r.on (j - i)) t ok i' a' e' := by
  cases r with
  | stop k => exact ⟨h.1, h.2.1, by rw [h.2.2.1]; omega, h.2.2.2⟩
  | tok off k kind text => exact ⟨by rw [h.1]; congr 1; omega, h.2.1, by rw [h.2.2.1]; omega, h.2.2.2⟩
  | bad a e => exact ⟨h.1, h.2.1, by rw [h.2.2.1]; omega, h.2.2.2⟩
theorem blank_esc {l : List UInt8} (h : stB l [92, 10] = true) : blankN l = 2 := by rw [blankN, if_pos h]
theorem blank_one {s : List UInt8} {j : Nat} (h : stB (s.drop j) [92, 10] = false) (h2 : (decide (nth s j 0 = 32) || decide (nth s j 0 = 9)) = true) : blankN (s.drop j) = 1 := by
  rw [blankN, if_neg (by rw [h]; simp), nth_drop_head, if_pos h2]
theorem blank_rem {s : List UInt8} {j : Nat} (h : stB (s.drop j) [92, 10] = false) (h2 : (decide (nth s j 0 = 32) || decide (nth s j 0 = 9)) = false) (h3 : nth s j 0 = 35) : blankN (s.drop j) = remark (s.drop j) := by
  rw [blankN, if_neg (by rw [h]; simp), nth_drop_head, if_neg (by rw [h2]; simp), if_pos h3]
theorem blank_no {s : List UInt8} {j : Nat} (h : stB (s.drop j) [92, 10] = false) (h2 : (decide (nth s j 0 = 32) || decide (nth s j 0 = 9)) = false) (h3 : ¬ nth s j 0 = 35) : blankN (s.drop j) = 0 := by
  rw [blankN, if_neg (by rw [h]; simp), nth_drop_head, if_neg (by rw [h2]; simp), if_neg h3]
set_option maxRecDepth 10000 in
theorem token_calls (b : Nat) (s : List UInt8) (i : Nat) (I : Look) (F : List HA) (w0 w : World) (hs : s.length ≤ 2305843009213693952) (hi : i ≤ s.length) (hG : EnvI I) (hw0 : St w0 I (row b 130 (scC s i 0 0) :: F) w) : TokC 78 130 b s i [] (tokP (s.drop i)) I F w := by
  refine enter Tryz.func78 rfl Tryz.ntmps78 rfl (hw0.self) ?_
  refine t_seq ?_
  refine t_region ?_
  refine l_e rfl rfl rfl (e_alloc rfl ti79 rfl) ?_
  rintro _ _ _ ⟨b2, rfl, rfl, rfl⟩
  refine l_heap (H' := row b2 79 (tokC tok0) :: _) ?_ (fun _ h => h)
  refine l_q rfl rfl rfl (q_assign rfl rfl) ?_
  refine l_nil ?_
  refine n_then ?_
  refine t_scopeE (ι := Nat × Nat) 0 rfl rfl (fun zz => i ≤ zz.1 ∧ zz.1 ≤ s.length ∧ tokP (s.drop i) = (tokL zz.2 (s.drop zz.1)).on (zz.1 - i) ∧ (s.drop zz.1).length < zz.2) (fun zz => s.length - zz.1) (fun zz => []) [(0, _), (2, _)] (fun zz => I) (fun zz => (row b2 79 (tokC tok0) :: row b 130 (scC s zz.1 0 0) :: F)) (i, (s.drop i).length + 1) ?_ (sub_nil) (sub_cons rfl (sub_cons rfl sub_nil)) (fun _ h => subC_st h) ?_ ?_
  · try dsimp only
    exact ⟨Nat.le_refl _, hi, by rw [Nat.sub_self, TR.on_zero]; rfl, Nat.lt_succ_self _⟩
  all_goals (
    rintro ⟨j, g⟩ ⟨hj1, hj2, hx, hfl⟩
    try dsimp only at *
    have hstep := tok_step hx hfl
    refine t_seq ?_
    first | refine t_label ?_ | refine t_skip ?_
    refine n_then ?_
    refine t_seq ?_
    refine t_seq ?_
    refine t_qdraw mo (by kernel_rfl) (fun _ _ _ _ _ h => h) ?_
    refine s_q rfl rfl rfl (q_move rfl rfl) ?_
    refine s_q rfl rfl rfl (q_nilCheck rfl rfl) ?_
    refine s_q rfl rfl rfl (q_fieldAddr rfl Tryz.underlying130 rfl rfl ti3 rfl rfl) ?_
    refine s_q rfl rfl rfl (q_load_row rfl Tryz.underlying3 rfl rfl (by rfl)) ?_
    refine s_q rfl rfl rfl (q_move rfl rfl) ?_
    refine s_q rfl rfl rfl (q_nilCheck rfl rfl) ?_
    refine s_q rfl rfl rfl (q_fieldAddr rfl Tryz.underlying130 rfl rfl ti9 rfl rfl) ?_
    refine s_q rfl rfl rfl (q_load_row rfl Tryz.underlying9 rfl rfl (by rfl)) ?_
    refine s_q rfl rfl rfl (q_len_str rfl Tryz.underlying9 rfl) ?_
    refine s_q rfl rfl rfl (q_eql rfl rfl rfl) ?_
    refine s_done ?_
    refine n_then ?_
    refine t_cond rfl (fun hc0 => ?_) (fun hc0 => ?_)
    · skip
      try simp at hc0
      obtain rfl : j = s.length := by omega
      have hend := hstep.1 (List.drop_length)
      refine t_seq ?_
      refine t_region ?_
      refine l_q rfl rfl rfl (q_build (pl := [(_, _), (_, _), (_, _), (_, _), (_, _)]) (cs := (tokC tok0).toArray) rfl Tryz.underlying79 ti79 ⟨rfl, ⟨_, _, ti3⟩, rfl, ⟨_, _, ti9⟩, rfl, ⟨_, _, ti3⟩, rfl, ⟨_, _, ti9⟩, rfl, ⟨_, _, ti4⟩, trivial⟩ rfl rfl) ?_
      refine l_e0 rfl rfl ((by first | exact e_store_all rfl ti79 rfl rfl rfl (by first | exact chC_ones _ | exact pcC_ones _ | exact tokC_ones _ | simp [Value.oneCell', str, u8]) rfl | exact e_store_agg rfl ti79 rfl rfl rfl (by first | exact chC_ones _ | exact pcC_ones _ | exact tokC_ones _ | simp [Value.oneCell', str, u8]) rfl)) ?_
      rintro _ _ _ ⟨rfl, rfl⟩
      refine l_q rfl rfl rfl (q_assign rfl rfl) ?_
      refine l_nil ?_
      refine n_then ?_
      refine t_ret ?_
      refine n_ret_then ?_
      refine n_ret_jump ?_
      refine n_retGG (.inl rfl) rfl (by exact rg_row rfl Tryz.underlying79 ti79 rfl rfl (rg_tmp rfl (rg_nil))) (fun w' hw => ?_)
      -- leaf 0
      exact ⟨_, rfl, I, _, ⟨rfl, tok0, false, s.length, 0, 0, rfl, (by rw [hend]; exact ⟨rfl, rfl, (by omega), rfl, rfl⟩), (Nat.le_refl _), rfl⟩, subC_st hw⟩
    · skip
      try simp at hc0
      have hj : j < s.length := by omega
      have hst := hstep.2 (drop_ne hj)
      refine t_skip ?_
      refine n_then ?_
      refine t_seq ?_
      refine t_region ?_
      refine l_q rfl rfl rfl (q_move rfl rfl) ?_
      refine l_q rfl rfl rfl (q_nilCheck rfl rfl) ?_
      refine l_q rfl rfl rfl (q_fieldAddr rfl Tryz.underlying130 rfl rfl ti3 rfl rfl) ?_
      refine l_q rfl rfl rfl (q_load_row rfl Tryz.underlying3 rfl rfl (by rfl)) ?_
      refine l_q rfl rfl rfl (q_assign rfl rfl) ?_
      refine l_nil ?_
      refine n_then ?_
      refine t_seq ?_
      refine t_seq ?_
      refine t_region ?_
      refine l_q rfl rfl rfl (q_move rfl rfl) ?_
      refine l_q rfl rfl rfl (q_nilCheck rfl rfl) ?_
      refine l_q rfl rfl rfl (q_fieldAddr rfl Tryz.underlying130 rfl rfl ti9 rfl rfl) ?_
      refine l_q rfl rfl rfl (q_load_row rfl Tryz.underlying9 rfl rfl (by rfl)) ?_
      refine l_q rfl rfl rfl (q_move rfl rfl) ?_
      refine l_q rfl rfl rfl ((by first | exact q_index_strN rfl Tryz.underlying9 rfl rfl (by omega) | exact q_index_str rfl Tryz.underlying9 rfl rfl (by omega))) ?_
      refine l_q rfl rfl rfl (q_assign rfl rfl) ?_
      refine l_nil ?_
      refine n_then ?_
      refine t_block ?_
      refine t_seq ?_
      refine t_region ?_
      refine l_q rfl rfl rfl (q_move rfl rfl) ?_
      refine l_q rfl rfl rfl (quiet_call rfl rfl rfl Tryz.func100 (by kernel_rfl) rfl ((fun w hw => starts_pure b s [92, 10] j 0 0 w (by omega) (rowed_of hw)))) ?_
      refine l_q rfl rfl rfl (q_assign rfl rfl) ?_
      refine l_nil ?_
      refine n_then ?_
      refine t_cond rfl (fun hc1 => ?_) (fun hc1 => ?_)
      · skip
        have hl2 := stB_len hc1
        rw [List.length_drop] at hl2
        replace hl2 : 2 ≤ s.length - j := hl2
        refine t_seq ?_
        refine t_region ?_
        refine l_q rfl rfl rfl (q_move rfl rfl) ?_
        refine l_e rfl rfl rfl (eff_call rfl rfl rfl Tryz.func101 (by kernel_rfl) rfl (fun w hw => skip_calls b s j 2 0 0 _ _ _ w (by omega) hs (by omega) (picks_st1 (row b 130 (scC s j 0 0)) hw))) ?_
        rintro _ _ _ ⟨rfl, rfl, rfl⟩
        refine l_nil ?_
        refine n_then ?_
        refine t_goto ?_
        refine n_goto_block ?_
        refine n_goto_then ?_
        have hb9 : blankN (s.drop j) = 2 := blank_esc hc1
        have h3 := hst.2 _ hb9 (by omega)
        rw [List.drop_drop] at h3
        refine n_gotoE ((j + 2, g - 1)) ?_ ?_ (sub_nil) (sub_cons rfl (sub_cons rfl sub_nil)) (fun _ h => by dsimp only; rw [show min (j + 2) s.length = j + 2 by omega] at h; exact subC_st h)
        · try dsimp only
          refine ⟨by omega, by omega, by rw [h3]; congr 1; omega, ?_⟩
          rw [List.length_drop] at hfl ⊢
          omega
        · try dsimp only
          show s.length - (j + 2) < s.length - j
          omega
      · skip
        refine t_seq ?_
        refine t_qreg ?_
        refine s_q rfl rfl rfl (q_move rfl rfl) ?_
        refine s_q rfl rfl rfl (q_eql_u8c rfl rfl rfl rfl) ?_
        refine s_q rfl rfl rfl (q_move rfl rfl) ?_
        refine s_or2 2 2 37 40 39 _ _ rfl rfl rfl rfl rfl rfl (fun h40 => by
            try simp at h40
            refine s_g rfl rfl rfl rfl rfl rfl (q_move rfl rfl) ?_
            refine s_g rfl rfl rfl rfl rfl rfl (q_eql_u8c rfl rfl rfl rfl) ?_
            exact s_val rfl
          ) (wanted_n rfl) rfl rfl rfl ?_
        refine s_q rfl rfl rfl (q_assign rfl rfl) ?_
        refine s_done ?_
        refine n_then ?_
        refine t_cond rfl (fun hc2 => ?_) (fun hc2 => ?_)
        · skip
          refine t_seq ?_
          refine t_region ?_
          refine l_q rfl rfl rfl (q_move rfl rfl) ?_
          refine l_e rfl rfl rfl (eff_call rfl rfl rfl Tryz.func101 (by kernel_rfl) rfl (fun w hw => skip_calls b s j 1 0 0 _ _ _ w (by omega) hs (by omega) (picks_st1 (row b 130 (scC s j 0 0)) hw))) ?_
          rintro _ _ _ ⟨rfl, rfl, rfl⟩
          refine l_nil ?_
          refine n_then ?_
          refine t_goto ?_
          refine n_goto_block ?_
          refine n_goto_then ?_
          have hb9 : blankN (s.drop j) = 1 := blank_one hc1 hc2
          have h3 := hst.2 _ hb9 (by omega)
          rw [List.drop_drop] at h3
          refine n_gotoE ((j + 1, g - 1)) ?_ ?_ (sub_nil) (sub_cons rfl (sub_cons rfl sub_nil)) (fun _ h => by dsimp only; rw [show min (j + 1) s.length = j + 1 by omega] at h; exact subC_st h)
          · try dsimp only
            refine ⟨by omega, by omega, by rw [h3]; congr 1; omega, ?_⟩
            rw [List.length_drop] at hfl ⊢
            omega
          · try dsimp only
            show s.length - (j + 1) < s.length - j
            omega
        · skip
          refine t_seq ?_
          refine t_region ?_
          refine l_q rfl rfl rfl (q_move rfl rfl) ?_
          refine l_q rfl rfl rfl (q_eql_u8c rfl rfl rfl rfl) ?_
          refine l_q rfl rfl rfl (q_assign rfl rfl) ?_
          refine l_nil ?_
          refine n_then ?_
          refine t_cond rfl (fun hc3 => ?_) (fun hc3 => ?_)
          · skip
            simp only [decide_eq_true_eq, decide_eq_false_iff_not] at hc3
            have hc3 : nth s j 0 = 35 := hc3
            have hrem := remark_pos (l := s.drop j) (by rw [nth_drop_head]; exact hc3) (drop_ne hj)
            rw [List.length_drop] at hrem
            refine t_seq ?_
            refine t_seq ?_
            refine t_region ?_
            refine l_q rfl rfl rfl (q_move rfl rfl) ?_
            refine l_q rfl rfl rfl (q_nilCheck rfl rfl) ?_
            refine l_q rfl rfl rfl (q_fieldAddr rfl Tryz.underlying130 rfl rfl ti9 rfl rfl) ?_
            refine l_q rfl rfl rfl (q_load_row rfl Tryz.underlying9 rfl rfl (by rfl)) ?_
            refine l_q rfl rfl rfl (q_move rfl rfl) ?_
            refine l_q rfl rfl rfl (q_slice_str_from rfl Tryz.underlying9 rfl rfl (by omega)) ?_
            refine l_q rfl rfl rfl (quiet_call rfl rfl rfl Tryz.func56 (by kernel_rfl) rfl ((fun w _ => indexByte_pure (s.drop j) 10 w))) ?_
            refine l_q rfl rfl rfl (q_assign rfl rfl) ?_
            refine l_nil ?_
            refine n_then ?_
            refine t_seq ?_
            refine t_region ?_
            refine l_q rfl rfl rfl (q_move rfl rfl) ?_
            refine l_q rfl rfl rfl (q_geq rfl rfl rfl) ?_
            refine l_nil ?_
            refine n_then ?_
            refine t_cond rfl (fun hc4 => ?_) (fun hc4 => ?_)
            · skip
              try simp at hc4
              obtain ⟨m, hm⟩ : ∃ m : Nat, Lib.indexByte (s.drop j) 10 = m := ⟨(Lib.indexByte (s.drop j) 10).toNat, by omega⟩
              rw [remark, if_pos hc4, hm] at hrem
              replace hrem : 1 ≤ m ∧ m ≤ s.length - j := hrem
              rw [hm]
              refine t_region ?_
              refine l_q rfl rfl rfl (q_move rfl rfl) ?_
              refine l_q rfl rfl rfl (q_move rfl rfl) ?_
              refine l_e rfl rfl rfl (eff_call rfl rfl rfl Tryz.func101 (by kernel_rfl) rfl (fun w hw => skip_calls b s j m 0 0 _ _ _ w (by omega) hs (by omega) (picks_st1 (row b 130 (scC s j 0 0)) hw))) ?_
              rintro _ _ _ ⟨rfl, rfl, rfl⟩
              refine l_nil ?_
              refine n_then ?_
              refine t_goto ?_
              refine n_goto_block ?_
              refine n_goto_then ?_
              have hb9 : blankN (s.drop j) = m := by rw [blank_rem hc1 hc2 hc3, remark, if_pos (by omega), hm]; rfl
              have h3 := hst.2 _ hb9 (by omega)
              rw [List.drop_drop] at h3
              refine n_gotoE ((j + m, g - 1)) ?_ ?_ (sub_nil) (sub_cons rfl (sub_cons rfl sub_nil)) (fun _ h => by dsimp only; rw [show min (j + m) s.length = j + m by omega] at h; exact subC_st h)
              · try dsimp only
                refine ⟨by omega, by omega, by rw [h3]; congr 1; omega, ?_⟩
                rw [List.length_drop] at hfl ⊢
                omega
              · try dsimp only
                show s.length - (j + m) < s.length - j
                omega
            · skip
              try simp at hc4
              refine t_region ?_
              refine l_q rfl rfl rfl (q_move rfl rfl) ?_
              refine l_q rfl rfl rfl (q_move rfl rfl) ?_
              refine l_q rfl rfl rfl (q_nilCheck rfl rfl) ?_
              refine l_q rfl rfl rfl (q_fieldAddr rfl Tryz.underlying130 rfl rfl ti9 rfl rfl) ?_
              refine l_q rfl rfl rfl (q_load_row rfl Tryz.underlying9 rfl rfl (by rfl)) ?_
              refine l_q rfl rfl rfl (q_len_str rfl Tryz.underlying9 rfl) ?_
              refine l_q rfl rfl rfl (q_nilCheck rfl rfl) ?_
              refine l_q rfl rfl rfl (q_fieldAddr rfl Tryz.underlying130 rfl rfl ti3 rfl rfl) ?_
              refine l_e0 rfl rfl (e_storeS rfl ti3 rfl rfl (by first | exact ⟨rfl, rfl⟩ | assumption) rfl (by first | (simp only [List.set_cons_succ, List.set_cons_zero]; rfl) | rfl)) ?_
              rintro _ _ _ ⟨rfl, rfl⟩
              refine l_heap (H' := row b 130 (scC s s.length 0 0) :: _) ?_ (fun _ h => h)
              refine l_nil ?_
              refine n_then ?_
              refine t_goto ?_
              refine n_goto_block ?_
              refine n_goto_then ?_
              have hb9 : blankN (s.drop j) = (s.length - j) := by rw [blank_rem hc1 hc2 hc3, remark, if_neg (by omega), List.length_drop]
              have h3 := hst.2 _ hb9 (by omega)
              rw [List.drop_drop] at h3
              refine n_gotoE ((j + (s.length - j), g - 1)) ?_ ?_ (sub_nil) (sub_cons rfl (sub_cons rfl sub_nil)) (fun _ h => by dsimp only; rw [show j + (s.length - j) = s.length by omega]; exact subC_st h)
              · try dsimp only
                refine ⟨by omega, by omega, by rw [h3]; congr 1; omega, ?_⟩
                rw [List.length_drop] at hfl ⊢
                omega
              · try dsimp only
                show s.length - (j + (s.length - j)) < s.length - j
                omega
          · skip
            simp only [decide_eq_true_eq, decide_eq_false_iff_not] at hc3
            have hc3 : ¬ nth s j 0 = 35 := hc3
            have hhd := hst.1 (blank_no hc1 hc2 hc3)
            refine t_seq ?_
            refine t_region ?_
            refine l_q rfl rfl rfl (q_move rfl rfl) ?_
            refine l_q rfl rfl rfl (q_eql_u8c rfl rfl rfl rfl) ?_
            refine l_q rfl rfl rfl (q_assign rfl rfl) ?_
            refine l_nil ?_
            refine n_then ?_
            refine t_cond rfl (fun hc5 => ?_) (fun hc5 => ?_)
            · skip
              simp only [decide_eq_true_eq, decide_eq_false_iff_not] at hc5
              have hc5 : nth s j 0 = 10 := hc5
              have hhd2 : headP (s.drop j) = .tok 0 1 3 [10] := by rw [headP, nth_drop_head, if_pos hc5]
              refine t_seq ?_
              refine t_region ?_
              refine l_q rfl rfl rfl (q_move rfl rfl) ?_
              refine l_e rfl rfl rfl (eff_call rfl rfl rfl Tryz.func101 (by kernel_rfl) rfl (fun w hw => skip_calls b s j 1 0 0 _ _ _ w (by omega) hs (by omega) (picks_st1 (row b 130 (scC s j 0 0)) hw))) ?_
              rintro _ _ _ ⟨rfl, rfl, rfl⟩
              refine l_nil ?_
              refine n_then ?_
              refine t_seq ?_
              refine t_region ?_
              refine l_q rfl rfl rfl (q_move rfl rfl) ?_
              refine l_q rfl rfl rfl (q_build (pl := [(_, _), (_, _), (_, _), (_, _), (_, _)]) (cs := (tokC ⟨3, [10], j, [], false⟩).toArray) rfl Tryz.underlying79 ti79 ⟨rfl, ⟨_, _, ti3⟩, rfl, ⟨_, _, ti9⟩, rfl, ⟨_, _, ti3⟩, rfl, ⟨_, _, ti9⟩, rfl, ⟨_, _, ti4⟩, trivial⟩ rfl rfl) ?_
              refine l_e0 rfl rfl ((by first | exact e_store_all rfl ti79 rfl rfl rfl (by first | exact chC_ones _ | exact pcC_ones _ | exact tokC_ones _ | simp [Value.oneCell', str, u8]) rfl | exact e_store_agg rfl ti79 rfl rfl rfl (by first | exact chC_ones _ | exact pcC_ones _ | exact tokC_ones _ | simp [Value.oneCell', str, u8]) rfl)) ?_
              rintro _ _ _ ⟨rfl, rfl⟩
              refine l_q rfl rfl rfl (q_assign rfl rfl) ?_
              refine l_nil ?_
              refine n_then ?_
              refine t_ret ?_
              refine n_ret_block ?_
              refine n_ret_then ?_
              refine n_ret_jump ?_
              refine n_retGG (.inl rfl) rfl (by exact rg_row rfl Tryz.underlying79 ti79 rfl rfl (rg_tmp rfl (rg_nil))) (fun w' hw => ?_)
              -- leaf 1
              exact ⟨_, rfl, I, _, ⟨rfl, ⟨3, [10], j, [], false⟩, true, (min (j + 1) s.length), 0, 0, rfl, (by rw [hhd, hhd2]; exact TRel.on ⟨rfl, rfl, (by omega), rfl, rfl⟩ hj1), (by omega), rfl⟩, subC_st hw⟩
            · skip
              simp only [decide_eq_true_eq, decide_eq_false_iff_not] at hc5
              have hc5 : ¬ nth s j 0 = 10 := hc5
              refine t_skip ?_
              refine n_block ?_
              refine n_then ?_
              refine t_seq ?_
              refine t_seq ?_
              refine t_region ?_
              refine l_q rfl rfl rfl (q_move rfl rfl) ?_
              refine l_q rfl rfl rfl (quiet_call rfl rfl rfl Tryz.func102 (by kernel_rfl) rfl ((fun w hw => operator_pure b s j w hs (by omega) (rowed_of hw) (hG.mono hw.imm)))) ?_
              refine l_q rfl rfl rfl (q_assign rfl rfl) ?_
              refine l_nil ?_
              refine n_then ?_
              refine t_seq ?_
              refine t_region ?_
              refine l_q rfl rfl rfl (q_move rfl rfl) ?_
              refine l_q rfl rfl rfl (q_neq_str rfl rfl rfl) ?_
              refine l_nil ?_
              refine n_then ?_
              refine t_cond rfl (fun hc6 => ?_) (fun hc6 => ?_)
              · skip
                have hc6 := of_decide_eq_true hc6
                have hopl := (opN_len 3 (s.drop j)).1
                rw [List.length_drop] at hopl
                replace hopl : (opP (s.drop j)).length ≤ s.length - j := hopl
                have hhd2 : headP (s.drop j) = .tok 0 (opP (s.drop j)).length 2 (opP (s.drop j)) := by rw [headP, nth_drop_head, if_neg hc5, if_pos hc6]
                refine t_seq ?_
                refine t_region ?_
                refine l_q rfl rfl rfl (q_move rfl rfl) ?_
                refine l_q rfl rfl rfl (q_move rfl rfl) ?_
                refine l_q rfl rfl rfl (q_len_str rfl Tryz.underlying9 rfl) ?_
                refine l_e rfl rfl rfl (eff_call rfl rfl rfl Tryz.func101 (by kernel_rfl) rfl (fun w hw => skip_calls b s j (opP (s.drop j)).length 0 0 _ _ _ w (by omega) hs (by omega) (picks_st1 (row b 130 (scC s j 0 0)) hw))) ?_
                rintro _ _ _ ⟨rfl, rfl, rfl⟩
                refine l_nil ?_
                refine n_then ?_
                refine t_seq ?_
                refine t_region ?_
                refine l_q rfl rfl rfl (q_move rfl rfl) ?_
                refine l_q rfl rfl rfl (q_move rfl rfl) ?_
                refine l_q rfl rfl rfl (q_build (pl := [(_, _), (_, _), (_, _), (_, _), (_, _)]) (cs := (tokC ⟨2, opP (s.drop j), j, [], false⟩).toArray) rfl Tryz.underlying79 ti79 ⟨rfl, ⟨_, _, ti3⟩, rfl, ⟨_, _, ti9⟩, rfl, ⟨_, _, ti3⟩, rfl, ⟨_, _, ti9⟩, rfl, ⟨_, _, ti4⟩, trivial⟩ rfl rfl) ?_
                refine l_e0 rfl rfl ((by first | exact e_store_all rfl ti79 rfl rfl rfl (by first | exact chC_ones _ | exact pcC_ones _ | exact tokC_ones _ | simp [Value.oneCell', str, u8]) rfl | exact e_store_agg rfl ti79 rfl rfl rfl (by first | exact chC_ones _ | exact pcC_ones _ | exact tokC_ones _ | simp [Value.oneCell', str, u8]) rfl)) ?_
                rintro _ _ _ ⟨rfl, rfl⟩
                refine l_q rfl rfl rfl (q_assign rfl rfl) ?_
                refine l_nil ?_
                refine n_then ?_
                refine t_ret ?_
                refine n_ret_then ?_
                refine n_ret_jump ?_
                refine n_retGG (.inl rfl) rfl (by exact rg_row rfl Tryz.underlying79 ti79 rfl rfl (rg_tmp rfl (rg_nil))) (fun w' hw => ?_)
                -- leaf 2
                exact ⟨_, rfl, I, _, ⟨rfl, ⟨2, opP (s.drop j), j, [], false⟩, true, (min (j + (opP (s.drop j)).length) s.length), 0, 0, rfl, (by rw [hhd, hhd2]; exact TRel.on ⟨rfl, rfl, (by omega), rfl, rfl⟩ hj1), (by omega), rfl⟩, subC_st hw⟩
              · skip
                have hc6 := of_decide_eq_false hc6
                have hhd2 : headP (s.drop j) = restP (s.drop j) := by rw [headP, nth_drop_head, if_neg hc5, if_neg hc6]
                refine t_skip ?_
                refine n_then ?_
                refine t_seq ?_
                refine t_region ?_
                refine l_q rfl rfl rfl (q_move rfl rfl) ?_
                refine l_q rfl rfl rfl (q_move rfl rfl) ?_
                refine l_e rfl rfl rfl (eff_call rfl rfl rfl Tryz.func103 (by kernel_rfl) rfl (fun w hw => rest_calls b s j _ _ _ w hs (by omega) (picks_st1 (row b 130 (scC s j 0 0)) hw))) ?_
                rintro _ _ _ ⟨rfl, tt, ok86, i86, a86, e86, rfl, hr86, hi86, rfl⟩
                refine l_q rfl rfl rfl (q_extract rfl rfl rfl) ?_
                refine l_q rfl rfl rfl (q_extract rfl rfl rfl) ?_
                refine l_e0 rfl rfl ((by first | exact e_store_all rfl ti79 rfl rfl rfl (by first | exact chC_ones _ | exact pcC_ones _ | exact tokC_ones _ | simp [Value.oneCell', str, u8]) rfl | exact e_store_agg rfl ti79 rfl rfl rfl (by first | exact chC_ones _ | exact pcC_ones _ | exact tokC_ones _ | simp [Value.oneCell', str, u8]) rfl)) ?_
                rintro _ _ _ ⟨rfl, rfl⟩
                refine l_q rfl rfl rfl (q_assign rfl rfl) ?_
                refine l_nil ?_
                refine n_then ?_
                refine t_ret ?_
                refine n_ret_jump ?_
                refine n_retGG (.inl rfl) rfl (by exact rg_row rfl Tryz.underlying79 ti79 rfl rfl (rg_tmp rfl (rg_nil))) (fun w' hw => ?_)
                -- leaf 3
                exact ⟨_, rfl, I, _, ⟨rfl, tt, ok86, i86, a86, e86, rfl, (by rw [hhd, hhd2]; exact hr86.on hj1), hi86, rfl⟩, subC_st hw⟩)
end Go.Tri

/-
  Runes sought in a text.
-/
namespace Go.Tri
open Go.Proofs Go.RowKit
set_option maxRecDepth 10000 in
theorem validRune_pure (r : Int) (w : World) : Pure Tryz.prog 57 [.int .i32 r] w (.bool ((decide (0 ≤ r) && decide (r < 55296)) || (decide (57343 < r) && decide (r ≤ 1114111)))) := by
  refine enter Tryz.func57 rfl Tryz.ntmps57 rfl (St.start w (look w) (Le.refl _)) ?_
  refine t_seq ?_
  refine t_region ?_
  refine l_q rfl rfl rfl (q_assign rfl rfl) ?_
  refine l_nil ?_
  refine n_then ?_
  refine t_seq ?_
  refine t_block ?_
  refine t_seq ?_
  refine t_qreg ?_
  refine s_q rfl rfl rfl (q_move rfl rfl) ?_
  refine s_q rfl rfl rfl (q_leq rfl rfl rfl) ?_
  refine s_q rfl rfl rfl (q_move rfl rfl) ?_
  refine s_and2 2 2 6 9 8 _ _ rfl rfl rfl rfl rfl rfl (fun h9 => by
      try simp at h9
      refine s_g rfl rfl rfl rfl rfl rfl (q_move rfl rfl) ?_
      refine s_g rfl rfl rfl rfl rfl rfl (q_lss rfl rfl rfl) ?_
      exact s_val rfl
    ) (wanted_n rfl) rfl rfl rfl ?_
  refine s_q rfl rfl rfl (q_assign rfl rfl) ?_
  refine s_done ?_
  refine n_then ?_
  refine t_cond rfl (fun hc0 => ?_) (fun hc0 => ?_)
  · skip
    refine t_seq ?_
    refine t_region ?_
    refine l_q rfl rfl rfl (q_assign rfl rfl) ?_
    refine l_nil ?_
    refine n_then ?_
    refine t_ret ?_
    refine n_ret_block ?_
    refine n_ret_then ?_
    refine n_ret1 rfl rfl (fun w' hw => ?_)
    -- leaf 0
    refine ⟨?_, hw.below⟩
    rw [show (decide (0 ≤ r) && decide (r < 55296)) = true from hc0]; rfl
  · skip
    refine t_seq ?_
    refine t_qreg ?_
    refine s_q rfl rfl rfl (q_move rfl rfl) ?_
    refine s_q rfl rfl rfl (q_lss rfl rfl rfl) ?_
    refine s_q rfl rfl rfl (q_move rfl rfl) ?_
    refine s_and2 2 2 13 16 15 _ _ rfl rfl rfl rfl rfl rfl (fun h16 => by
        try simp at h16
        refine s_g rfl rfl rfl rfl rfl rfl (q_move rfl rfl) ?_
        refine s_g rfl rfl rfl rfl rfl rfl (q_leq rfl rfl rfl) ?_
        exact s_val rfl
      ) (wanted_n rfl) rfl rfl rfl ?_
    refine s_q rfl rfl rfl (q_assign rfl rfl) ?_
    refine s_done ?_
    refine n_then ?_
    refine t_cond rfl (fun hc1 => ?_) (fun hc1 => ?_)
    · skip
      refine t_seq ?_
      refine t_region ?_
      refine l_q rfl rfl rfl (q_assign rfl rfl) ?_
      refine l_nil ?_
      refine n_then ?_
      refine t_ret ?_
      refine n_ret_block ?_
      refine n_ret_then ?_
      refine n_ret1 rfl rfl (fun w' hw => ?_)
      -- leaf 1
      refine ⟨?_, hw.below⟩
      rw [show (decide (57343 < r) && decide (r ≤ 1114111)) = true from hc1, Bool.or_true]
    · skip
      refine t_skip ?_
      refine n_block ?_
      refine n_then ?_
      refine t_seq ?_
      refine t_region ?_
      refine l_q rfl rfl rfl (q_assign rfl rfl) ?_
      refine l_nil ?_
      refine n_then ?_
      refine t_ret ?_
      refine n_ret1 rfl rfl (fun w' hw => ?_)
      -- leaf 2
      refine ⟨?_, hw.below⟩
      rw [show (decide (0 ≤ r) && decide (r < 55296)) = false from hc0, show (decide (57343 < r) && decide (r ≤ 1114111)) = false from hc1]; rfl
set_option maxRecDepth 10000 in
theorem indexRune_pure (s : List UInt8) (r : Nat) (w : World) (hs : s.length ≤ 1000000000) (ha : Ascii s) : Pure Tryz.prog 38 [str s, .int .i32 (r : Int)] w (.int .i64 (if r < 128 then Lib.indexByte s (UInt8.ofNat r) else -1)) := by
  refine enter Tryz.func38 rfl Tryz.ntmps38 rfl (St.start w (look w) (Le.refl _)) ?_
  refine t_seq ?_
  refine t_region ?_
  refine l_q rfl rfl rfl (q_assign rfl rfl) ?_
  refine l_nil ?_
  refine n_then ?_
  refine t_block ?_
  refine t_seq ?_
  refine t_qreg ?_
  refine s_q rfl rfl rfl (q_move rfl rfl) ?_
  refine s_q rfl rfl rfl (q_leq rfl rfl rfl) ?_
  refine s_q rfl rfl rfl (q_move rfl rfl) ?_
  refine s_and2 2 2 163 166 165 _ _ rfl rfl rfl rfl rfl rfl (fun h166 => by
      try simp at h166
      refine s_g rfl rfl rfl rfl rfl rfl (q_move rfl rfl) ?_
      refine s_g rfl rfl rfl rfl rfl rfl (q_lss rfl rfl rfl) ?_
      exact s_val rfl
    ) (wanted_n rfl) rfl rfl rfl ?_
  refine s_q rfl rfl rfl (q_assign rfl rfl) ?_
  refine s_done ?_
  refine n_then ?_
  refine t_cond rfl (fun hc0 => ?_) (fun hc0 => ?_)
  · skip
    have hr : r < 128 := by have h0 : (decide ((0 : Int) ≤ (r : Int)) && decide ((r : Int) < 128)) = true := hc0; simp only [Bool.and_eq_true, decide_eq_true_eq] at h0; omega
    refine t_seq ?_
    refine t_region ?_
    refine l_q rfl rfl rfl (q_move rfl rfl) ?_
    refine l_q rfl rfl rfl (q_move rfl rfl) ?_
    refine l_q rfl rfl rfl (q_conv_u8 r rfl Tryz.underlying21 Tryz.underlying5 rfl rfl) ?_
    refine l_q rfl rfl rfl (quiet_call rfl rfl rfl Tryz.func56 (by kernel_rfl) rfl ((fun w _ => indexByte_pure s (UInt8.ofNat r) w))) ?_
    refine l_q rfl rfl rfl (q_assign rfl rfl) ?_
    refine l_nil ?_
    refine n_then ?_
    refine t_ret ?_
    refine n_ret_block ?_
    refine n_ret1 rfl rfl (fun w' hw => ?_)
    -- leaf 0
    refine ⟨?_, hw.below⟩
    rw [if_pos hr]
  · skip
    have hr : ¬ r < 128 := by have h0 : (decide ((0 : Int) ≤ (r : Int)) && decide ((r : Int) < 128)) = false := hc0; simp only [Bool.and_eq_false_iff, decide_eq_false_iff_not] at h0; omega
    refine t_seq ?_
    refine t_region ?_
    refine l_q rfl rfl rfl (q_move rfl rfl) ?_
    refine l_q rfl rfl rfl (q_eql rfl rfl rfl) ?_
    refine l_q rfl rfl rfl (q_assign rfl rfl) ?_
    refine l_nil ?_
    refine n_then ?_
    refine t_cond rfl (fun hc1 => ?_) (fun hc1 => ?_)
    · skip
      refine t_seq ?_
      refine t_seq ?_
      refine t_region ?_
      refine l_q rfl rfl rfl (q_move rfl rfl) ?_
      refine l_e rfl rfl rfl (e_rangeStr rfl Tryz.underlying9 rfl) ?_
      rintro _ _ _ ⟨b175, rfl, rfl, rfl⟩
      refine l_nil ?_
      refine n_then ?_
      refine t_block ?_
      refine t_loopE (ι := Nat) (fun zz => zz ≤ s.length) (fun zz => s.length - zz) (fun zz => []) [(0, _), (1, _), (160, _), (171, _), (175, _)] (fun zz => look w) (fun zz => [obj b175 (.stringIter ⟨s.toArray⟩ zz)]) 0 ?_ (sub_nil) (sub_cons rfl (sub_cons rfl (sub_cons rfl (sub_cons rfl (sub_cons rfl sub_nil))))) (fun _ h => subC_st h) ?_
      · try dsimp only
        exact Nat.zero_le _
      rintro p hp
      try dsimp only at *
      refine t_seq ?_
      refine t_region ?_
      refine l_e rfl rfl rfl (e_nextStr rfl rfl) ?_
      rintro _ _ _ ⟨vs176, rfl, hz176, hn176, rfl, rfl⟩
      refine l_q rfl rfl rfl (q_extract rfl rfl hz176) ?_
      refine l_nil ?_
      refine n_then ?_
      refine t_seq ?_
      refine t_cond rfl (fun hc2 => ?_) (fun hc2 => ?_)
      · skip
        try simp at hc2
        have hlt : p < s.length := by simpa using hc2
        have hlow : (nth s p 0).toNat < 128 := ha _ (nth_mem hlt)
        have hrun := (dec_span s p hlt).1 hlow
        replace hrun : (runeAt s p).1 = (nth s p 0).toNat ∧ (runeAt s p).2 = 1 := by rw [hrun]; exact ⟨rfl, rfl⟩
        refine t_skip ?_
        refine n_then ?_
        refine t_block ?_
        refine t_seq ?_
        refine t_region ?_
        refine l_q rfl rfl rfl (q_extract rfl rfl (hn176 (by omega)).1) ?_
        refine l_q rfl rfl rfl (q_extract rfl rfl (hn176 (by omega)).2) ?_
        refine l_q rfl rfl rfl (q_assign rfl rfl) ?_
        refine l_q rfl rfl rfl (q_assign rfl rfl) ?_
        refine l_nil ?_
        refine n_then ?_
        refine t_seq ?_
        refine t_region ?_
        refine l_q rfl rfl rfl (q_move rfl rfl) ?_
        refine l_q rfl rfl rfl (q_eql rfl rfl rfl) ?_
        refine l_nil ?_
        refine n_then ?_
        refine t_cond rfl (fun hc3 => ?_) (fun hc3 => ?_)
        · skip
          exfalso
          have h3 := of_decide_eq_true hc3
          rw [hrun.1] at h3
          omega
        · skip
          refine t_skip ?_
          refine n_block ?_
          refine n_roundE (nextPos s p) ?_ ?_ (sub_nil) (sub_cons rfl (sub_cons rfl (sub_cons rfl (sub_cons rfl (sub_cons rfl sub_nil))))) (fun _ h => by try dsimp only; exact subC_st h)
          · try dsimp only
            rw [nextPos, if_pos hlt, hrun.2]; exact hlt
          · try dsimp only
            rw [nextPos, if_pos hlt, hrun.2]; omega
      · skip
        try simp at hc2
        refine t_exit ?_
        refine n_exit_then ?_
        refine n_exit_then ?_
        refine n_exit_block ?_
        refine n_then ?_
        refine t_seq ?_
        refine t_region ?_
        refine l_q rfl rfl rfl (q_assign rfl rfl) ?_
        refine l_nil ?_
        refine n_then ?_
        refine t_ret ?_
        refine n_ret_block ?_
        refine n_ret1 rfl rfl (fun w' hw => ?_)
        -- leaf 1
        refine ⟨?_, hw.below⟩
        rw [if_neg hr]
    · skip
      refine t_seq ?_
      refine t_region ?_
      refine l_q rfl rfl rfl (q_move rfl rfl) ?_
      refine l_q rfl rfl rfl (quiet_call rfl rfl rfl Tryz.func57 (by kernel_rfl) rfl ((fun w _ => validRune_pure _ w))) ?_
      refine l_q rfl rfl rfl (q_not rfl rfl) ?_
      refine l_q rfl rfl rfl (q_assign rfl rfl) ?_
      refine l_nil ?_
      refine n_then ?_
      refine t_cond rfl (fun hc4 => ?_) (fun hc4 => ?_)
      · skip
        refine t_seq ?_
        refine t_region ?_
        refine l_q rfl rfl rfl (q_assign rfl rfl) ?_
        refine l_nil ?_
        refine n_then ?_
        refine t_ret ?_
        refine n_ret_block ?_
        refine n_ret1 rfl rfl (fun w' hw => ?_)
        -- leaf 2
        refine ⟨?_, hw.below⟩
        rw [if_neg hr]
      · skip
        refine t_scope rfl ?_
        refine t_seq ?_
        refine t_region ?_
        refine l_q rfl rfl rfl (q_move rfl rfl) ?_
        refine l_q rfl rfl rfl (q_rune_str rfl Tryz.underlying21 Tryz.underlying9 rfl) ?_
        obtain ⟨e, he⟩ : ∃ e, e = (Utf8.encode (r : Int)).data.toList := ⟨_, rfl⟩
        have henc := enc_high (r : Int) (by omega)
        rw [← he] at henc ⊢
        refine l_q rfl rfl rfl (q_assign rfl rfl) ?_
        refine l_nil ?_
        refine n_then ?_
        refine t_seq ?_
        refine t_region ?_
        refine l_q rfl rfl rfl (q_move rfl rfl) ?_
        refine l_q rfl rfl rfl (q_len_str rfl Tryz.underlying9 rfl) ?_
        refine l_q rfl rfl rfl (q_sub64 rfl rfl rfl (by omega)) ?_
        refine l_q rfl rfl rfl (q_assign rfl rfl) ?_
        refine l_nil ?_
        refine n_then ?_
        refine t_seq ?_
        refine t_region ?_
        refine l_q rfl rfl rfl (q_move rfl rfl) ?_
        refine l_q rfl rfl rfl (q_assign rfl rfl) ?_
        refine l_nil ?_
        refine n_then ?_
        refine t_seq ?_
        refine t_region ?_
        refine l_q rfl rfl rfl (q_assign rfl rfl) ?_
        refine l_nil ?_
        refine n_then ?_
        refine t_seq ?_
        refine t_block ?_
        refine t_loopE (ι := Nat) (fun zz => 1 ≤ zz) (fun zz => 0) (fun zz => [(9, .int .i64 (zz : Int))]) [(0, _), (1, _), (160, _), (171, _), (183, _), (7, _), (8, _)] (fun zz => look w) (fun zz => []) (e.length - 1) ?_ (sub_cons' rfl (congrArg (Value.int IntKind.i64) (by omega)) (sub_nil)) (sub_cons rfl (sub_cons rfl (sub_cons rfl (sub_cons rfl (sub_cons rfl (sub_cons rfl (sub_cons rfl sub_nil))))))) (fun _ h => subC_st h) ?_
        · try dsimp only
          omega
        rintro i hi1
        try dsimp only at *
        refine t_seq ?_
        refine t_seq ?_
        refine t_region ?_
        refine l_q rfl rfl rfl (q_move rfl rfl) ?_
        refine l_q rfl rfl rfl (q_move rfl rfl) ?_
        refine l_q rfl rfl rfl (q_len_str rfl Tryz.underlying9 rfl) ?_
        refine l_q rfl rfl rfl (q_lss rfl rfl rfl) ?_
        refine l_nil ?_
        refine n_then ?_
        refine t_cond rfl (fun hc5 => ?_) (fun hc5 => ?_)
        · skip
          try simp at hc5
          refine t_skip ?_
          refine n_then ?_
          refine t_block ?_
          refine t_scope rfl ?_
          refine t_seq ?_
          refine t_seq ?_
          refine t_qdraw mo (by kernel_rfl) (fun _ _ _ _ _ h => h) ?_
          refine s_q rfl rfl rfl (q_move rfl rfl) ?_
          refine s_q rfl rfl rfl (q_move rfl rfl) ?_
          refine s_q rfl rfl rfl ((by first | exact q_index_strN rfl Tryz.underlying9 rfl rfl (by omega) | exact q_index_str rfl Tryz.underlying9 rfl rfl (by omega))) ?_
          refine s_q rfl rfl rfl (q_move rfl rfl) ?_
          refine s_q rfl rfl rfl (q_move rfl rfl) ?_
          refine s_q rfl rfl rfl ((by first | exact q_index_strN rfl Tryz.underlying9 rfl rfl (by omega) | exact q_index_str rfl Tryz.underlying9 rfl rfl (by omega))) ?_
          refine s_q rfl rfl rfl (q_neq_u8 rfl rfl rfl) ?_
          refine s_done ?_
          refine n_then ?_
          refine t_cond rfl (fun hc6 => ?_) (fun hc6 => ?_)
          · skip
            refine t_seq ?_
            refine t_qdraw mo (by kernel_rfl) (fun _ _ _ _ _ h => h) ?_
            refine s_q rfl rfl rfl (q_move rfl rfl) ?_
            refine s_q rfl rfl rfl (q_move rfl rfl) ?_
            refine s_q rfl rfl rfl (q_add64 rfl rfl rfl (by omega)) ?_
            refine s_q rfl rfl rfl (q_slice_str_from rfl Tryz.underlying9 rfl rfl (by omega)) ?_
            refine s_q rfl rfl rfl (q_move rfl rfl) ?_
            refine s_q rfl rfl rfl (q_move rfl rfl) ?_
            refine s_q rfl rfl rfl ((by first | exact q_index_strN rfl Tryz.underlying9 rfl rfl (by omega) | exact q_index_str rfl Tryz.underlying9 rfl rfl (by omega))) ?_
            refine s_q rfl rfl rfl (quiet_call rfl rfl rfl Tryz.func56 (by kernel_rfl) rfl ((fun w _ => indexByte_pure (s.drop (i + 1)) (nth e (((e.length : Int) - 1)).toNat 0) w))) ?_
            refine s_q rfl rfl rfl (q_assign rfl rfl) ?_
            refine s_done ?_
            refine n_then ?_
            refine t_seq ?_
            refine t_seq ?_
            refine t_region ?_
            refine l_q rfl rfl rfl (q_move rfl rfl) ?_
            refine l_q rfl rfl rfl (q_lss rfl rfl rfl) ?_
            refine l_nil ?_
            refine n_then ?_
            refine t_cond rfl (fun hc7 => ?_) (fun hc7 => ?_)
            · skip
              refine t_seq ?_
              refine t_region ?_
              refine l_q rfl rfl rfl (q_assign rfl rfl) ?_
              refine l_nil ?_
              refine n_then ?_
              refine t_ret ?_
              refine n_ret_then ?_
              refine n_ret_then ?_
              refine n_ret_scope ?_
              refine n_ret_block ?_
              refine n_ret_then ?_
              refine n_ret_block ?_
              refine n_ret_then ?_
              refine n_ret_scope ?_
              refine n_ret_block ?_
              refine n_ret1 rfl rfl (fun w' hw => ?_)
              -- leaf 3
              refine ⟨?_, hw.below⟩
              rw [if_neg hr]
            · skip
              exfalso
              have h8 := henc.2.2 _ (nth_mem (l := e) (i := (((e.length : Int) - 1)).toNat) (d := 0) (by omega))
              have h9 := idx_neg (ascii_not (ascii_drop ha (i + 1)) h8)
              exact of_decide_eq_false hc7 h9
          · skip
            exfalso
            have h6 : decide (nth s i 0 ≠ nth e (((e.length : Int) - 1)).toNat 0) = false := hc6
            rw [decide_eq_false_iff_not, Classical.not_not] at h6
            have h7 := ha _ (nth_mem (l := s) (i := i) (d := 0) (by omega))
            have h8 := henc.2.2 _ (nth_mem (l := e) (i := (((e.length : Int) - 1)).toNat) (d := 0) (by omega))
            rw [h6] at h7
            omega
        · skip
          try simp at hc5
          refine t_exit ?_
          refine n_exit_then ?_
          refine n_exit_then ?_
          refine n_exit_block ?_
          refine n_then ?_
          refine t_seq ?_
          refine t_seq ?_
          refine t_region ?_
          refine l_q rfl rfl rfl (q_assign rfl rfl) ?_
          refine l_nil ?_
          refine n_then ?_
          refine t_ret ?_
          refine n_ret_then ?_
          refine n_ret_scope ?_
          refine n_ret_block ?_
          refine n_ret1 rfl rfl (fun w' hw => ?_)
          -- leaf 4
          refine ⟨?_, hw.below⟩
          rw [if_neg hr]
end Go.Tri

/-
  Bytes sought in a text.
-/
namespace Go.Tri
open Go.Proofs Go.RowKit
theorem indexAny_any (s c : List UInt8) : decide (0 ≤ Lib.indexAny s c) = anyOf s c := by
  unfold anyOf
  have hcon : ∀ b, c.contains b = hasB c b := fun b => by
    unfold hasB
    rw [List.contains_eq_any_beq]
    congr 1; funext d
    exact Bool.beq_comm
  induction s with
  | nil => rfl
  | cons b s ih =>
    have hge := Lib.indexAny_ge c s
    rw [List.any_cons, ← ih, ← hcon, Lib.indexAny]
    cases hx : c.contains b with
    | true => simp
    | false =>
      rw [if_neg (by simp), Bool.false_or]
      split
      · rename_i h1
        have : Lib.indexAny s c = -1 := by simpa using h1
        rw [this]
      · rename_i h1
        have h2 : ¬ Lib.indexAny s c = -1 := by simpa using h1
        have h3 : 0 ≤ Lib.indexAny s c := by omega
        rw [decide_eq_true h3, decide_eq_true (by omega)]
set_option maxRecDepth 10000 in
theorem shouldUse_pure (n : Int) (w : World) : Pure Tryz.prog 156 [.int .i64 n] w (.bool (decide (8 < n))) := by
  refine enter Tryz.func156 rfl Tryz.ntmps156 rfl (St.start w (look w) (Le.refl _)) ?_
  refine t_seq ?_
  refine t_region ?_
  refine l_q rfl rfl rfl (q_assign rfl rfl) ?_
  refine l_nil ?_
  refine n_then ?_
  refine t_seq ?_
  refine t_region ?_
  refine l_q rfl rfl rfl (q_move rfl rfl) ?_
  refine l_q rfl rfl rfl (q_gtr rfl rfl rfl) ?_
  refine l_q rfl rfl rfl (q_assign rfl rfl) ?_
  refine l_nil ?_
  refine n_then ?_
  refine t_ret ?_
  refine n_ret1 rfl rfl (fun w' hw => ?_)
  -- leaf 0
  exact ⟨rfl, hw.below⟩
set_option maxRecDepth 10000 in
theorem indexAny_short (s c : List UInt8) (w : World) (hs : s.length ≤ 8) (hcl : 2 ≤ c.length) (hcm : c.length ≤ 1000000000) (ha : Ascii c) : PureX Tryz.prog 128 [str s, str c] w (fun v => ∃ n : Int, v = .int .i64 n ∧ decide (0 ≤ n) = anyOf s c) := by
  refine enter Tryz.func128 rfl Tryz.ntmps128 rfl (St.start w (look w) (Le.refl _)) ?_
  refine t_seq ?_
  refine t_region ?_
  refine l_q rfl rfl rfl (q_assign rfl rfl) ?_
  refine l_nil ?_
  refine n_then ?_
  refine t_seq ?_
  refine t_seq ?_
  refine t_region ?_
  refine l_q rfl rfl rfl (q_move rfl rfl) ?_
  refine l_q rfl rfl rfl (q_eql_str rfl rfl rfl) ?_
  refine l_nil ?_
  refine n_then ?_
  refine t_cond rfl (fun hc0 => ?_) (fun hc0 => ?_)
  · skip
    exfalso
    rw [of_decide_eq_true hc0] at hcl
    exact absurd hcl (by decide)
  · skip
    refine t_skip ?_
    refine n_then ?_
    refine t_seq ?_
    refine t_seq ?_
    refine t_region ?_
    refine l_q rfl rfl rfl (q_move rfl rfl) ?_
    refine l_q rfl rfl rfl (q_len_str rfl Tryz.underlying9 rfl) ?_
    refine l_q rfl rfl rfl (q_eql rfl rfl rfl) ?_
    refine l_nil ?_
    refine n_then ?_
    refine t_cond rfl (fun hc1 => ?_) (fun hc1 => ?_)
    · skip
      try simp at hc1
      exfalso
      omega
    · skip
      try simp at hc1
      refine t_skip ?_
      refine n_then ?_
      refine t_seq ?_
      refine t_seq ?_
      refine t_region ?_
      refine l_q rfl rfl rfl (q_move rfl rfl) ?_
      refine l_q rfl rfl rfl (q_len_str rfl Tryz.underlying9 rfl) ?_
      refine l_q rfl rfl rfl (quiet_call rfl rfl rfl Tryz.func156 (by kernel_rfl) rfl ((fun w _ => shouldUse_pure _ w))) ?_
      refine l_nil ?_
      refine n_then ?_
      refine t_cond rfl (fun hc2 => ?_) (fun hc2 => ?_)
      · skip
        try simp at hc2
        exfalso
        omega
      · skip
        try simp at hc2
        refine t_skip ?_
        refine n_then ?_
        refine t_seq ?_
        refine t_seq ?_
        refine t_region ?_
        refine l_q rfl rfl rfl (q_move rfl rfl) ?_
        refine l_e rfl rfl rfl (e_rangeStr rfl Tryz.underlying9 rfl) ?_
        rintro _ _ _ ⟨b45, rfl, rfl, rfl⟩
        refine l_nil ?_
        refine n_then ?_
        refine t_block ?_
        refine t_loopE (ι := Nat) (fun zz => zz ≤ s.length ∧ anyOf (s.take zz) c = false) (fun zz => s.length - zz) (fun zz => []) [(0, _), (1, _), (12, _), (15, _), (26, _), (45, _)] (fun zz => look w) (fun zz => [obj b45 (.stringIter ⟨s.toArray⟩ zz)]) 0 ?_ (sub_nil) (sub_cons rfl (sub_cons rfl (sub_cons rfl (sub_cons rfl (sub_cons rfl (sub_cons rfl sub_nil)))))) (fun _ h => subC_st h) ?_
        · try dsimp only
          exact ⟨Nat.zero_le _, rfl⟩
        rintro p ⟨hp, hno⟩
        try dsimp only at *
        refine t_seq ?_
        refine t_region ?_
        refine l_e rfl rfl rfl (e_nextStr rfl rfl) ?_
        rintro _ _ _ ⟨vs46, rfl, hz46, hn46, rfl, rfl⟩
        refine l_q rfl rfl rfl (q_extract rfl rfl hz46) ?_
        refine l_nil ?_
        refine n_then ?_
        refine t_seq ?_
        refine t_cond rfl (fun hc3 => ?_) (fun hc3 => ?_)
        · skip
          try simp at hc3
          have hlt : p < s.length := by simpa using hc3
          have hrun := dec_span s p hlt
          refine t_skip ?_
          refine n_then ?_
          refine t_block ?_
          refine t_seq ?_
          refine t_region ?_
          refine l_q rfl rfl rfl (q_extract rfl rfl (hn46 (by omega)).1) ?_
          refine l_q rfl rfl rfl (q_extract rfl rfl (hn46 (by omega)).2) ?_
          refine l_q rfl rfl rfl (q_assign rfl rfl) ?_
          refine l_q rfl rfl rfl (q_assign rfl rfl) ?_
          refine l_nil ?_
          refine n_then ?_
          refine t_seq ?_
          refine t_region ?_
          refine l_q rfl rfl rfl (q_move rfl rfl) ?_
          refine l_q rfl rfl rfl (q_move rfl rfl) ?_
          refine l_q rfl rfl rfl (quiet_call rfl rfl rfl Tryz.func38 (by kernel_rfl) rfl ((fun w _ => indexRune_pure c (runeAt s p).1 w hcm ha))) ?_
          refine l_q rfl rfl rfl (q_geq rfl rfl rfl) ?_
          refine l_nil ?_
          refine n_then ?_
          refine t_cond rfl (fun hc4 => ?_) (fun hc4 => ?_)
          · skip
            try simp at hc4
            refine t_seq ?_
            refine t_region ?_
            refine l_q rfl rfl rfl (q_move rfl rfl) ?_
            refine l_q rfl rfl rfl (q_assign rfl rfl) ?_
            refine l_nil ?_
            refine n_then ?_
            refine t_ret ?_
            refine n_ret_block ?_
            refine n_ret_then ?_
            refine n_ret_block ?_
            refine n_ret_then ?_
            refine n_ret1 rfl rfl (fun w' hw => ?_)
            -- leaf 0
            refine ⟨_, rfl, ⟨_, rfl, ?_⟩, hw.below⟩
            have hl : (nth s p 0).toNat < 128 := by
              refine Classical.byContradiction fun h => ?_
              have := (hrun.2 h).1
              rw [if_neg (by omega)] at hc4
              omega
            rw [hrun.1 hl, if_pos hl] at hc4
            have e : UInt8.ofNat (nth s p 0).toNat = nth s p 0 := by simp
            rw [e] at hc4
            rw [any_hit hlt (by rw [← indexByte_has]; exact decide_eq_true hc4)]
            exact decide_eq_true (by omega)
          · skip
            try simp at hc4
            refine t_skip ?_
            refine n_block ?_
            refine n_roundE (nextPos s p) ?_ ?_ (sub_nil) (sub_cons rfl (sub_cons rfl (sub_cons rfl (sub_cons rfl (sub_cons rfl (sub_cons rfl sub_nil)))))) (fun _ h => by try dsimp only; exact subC_st h)
            · try dsimp only
              rw [nextPos, if_pos hlt]
              by_cases hl : (nth s p 0).toNat < 128
              · have hr := hrun.1 hl
                have hn : hasB c (nth s p 0) = false := by
                  rw [hr, if_pos hl] at hc4
                  have e : UInt8.ofNat (nth s p 0).toNat = nth s p 0 := by simp
                  rw [e] at hc4
                  rw [← indexByte_has]; exact decide_eq_false (by omega)
                rw [hr]
                exact ⟨hlt, by rw [any_take hlt, hno, hn]; rfl⟩
              · obtain ⟨h1, h2, h3, h4⟩ := hrun.2 hl
                exact ⟨h3, by rw [any_span ha _ h3 h4]; exact hno⟩
            · try dsimp only
              rw [nextPos, if_pos hlt]
              by_cases hl : (nth s p 0).toNat < 128
              · rw [hrun.1 hl]; show s.length - (p + 1) < _; omega
              · have := (hrun.2 hl).2.1; omega
        · skip
          try simp at hc3
          obtain rfl : p = s.length := by omega
          refine t_exit ?_
          refine n_exit_then ?_
          refine n_exit_then ?_
          refine n_exit_block ?_
          refine n_then ?_
          refine t_seq ?_
          refine t_region ?_
          refine l_q rfl rfl rfl (q_assign rfl rfl) ?_
          refine l_nil ?_
          refine n_then ?_
          refine t_ret ?_
          refine n_ret1 rfl rfl (fun w' hw => ?_)
          -- leaf 1
          refine ⟨_, rfl, ⟨_, rfl, ?_⟩, hw.below⟩
          rw [List.take_length] at hno
          rw [hno]; rfl
theorem ascii_get {c : List UInt8} (ha : Ascii c) : ∀ (j : Nat) b, (⟨c.toArray⟩ : ByteArray).data.toList[j]? = some b → b.toNat < 128 := fun j b hb => ha b (List.mem_of_getElem? (by simpa using hb))
theorem indexAny_X (s c : List UInt8) (w : World) (hs : s.length ≤ 1000000000) (hc : 2 ≤ c.length) (hc2 : c.length ≤ 1000) (ha : Ascii c) : PureX Tryz.prog 128 [str s, str c] w (fun v => ∃ n : Int, v = .int .i64 n ∧ decide (0 ≤ n) = anyOf s c) := by
  by_cases h8 : s.length ≤ 8
  · exact indexAny_short s c w h8 hc (by omega) ha
  · have h1 := size_str s
    have h2 := size_str c
    refine (Tryz.strings_IndexAny_long (zero_of_info (n := 256) (by kernel_rfl)).1 ⟨s.toArray⟩ ⟨c.toArray⟩ w (by omega) (by omega) (by omega) (by omega) (ascii_get ha)).mono fun e w' ⟨h3, h4⟩ => ⟨_, h3, ⟨_, rfl, ?_⟩, h4 ▸ ((Below.refl _ w).alloc (Nat.le_refl _) _).alloc (by simp) _⟩
    show decide (0 ≤ Lib.indexAny s.toArray.toList c.toArray.toList) = _
    rw [show s.toArray.toList = s by simp, show c.toArray.toList = c by simp]
    exact indexAny_any s c
set_option maxRecDepth 10000 in
theorem containsAny_pure (s c : List UInt8) (w : World) (hs : s.length ≤ 1000000000) (hc : 2 ≤ c.length) (hc2 : c.length ≤ 1000) (ha : Ascii c) : Pure Tryz.prog 105 [str s, str c] w (.bool (anyOf s c)) := by
  refine enter Tryz.func105 rfl Tryz.ntmps105 rfl (St.start w (look w) (Le.refl _)) ?_
  refine t_seq ?_
  refine t_region ?_
  refine l_q rfl rfl rfl (q_assign rfl rfl) ?_
  refine l_nil ?_
  refine n_then ?_
  refine t_seq ?_
  refine t_region ?_
  refine l_q rfl rfl rfl (q_move rfl rfl) ?_
  refine l_q rfl rfl rfl (q_move rfl rfl) ?_
  refine l_e rfl rfl rfl (eff_callX rfl rfl rfl Tryz.func128 (by kernel_rfl) rfl (fun w hw => indexAny_X s c w hs hc hc2 ha)) ?_
  rintro _ _ _ ⟨⟨n, rfl, hn⟩, rfl, rfl⟩
  refine l_q rfl rfl rfl (q_geq rfl rfl rfl) ?_
  refine l_q rfl rfl rfl (q_assign rfl rfl) ?_
  refine l_nil ?_
  refine n_then ?_
  refine t_ret ?_
  refine n_ret1 rfl rfl (fun w' hw => ?_)
  -- leaf 0
  refine ⟨?_, hw.below⟩
  rw [hn]
end Go.Tri
