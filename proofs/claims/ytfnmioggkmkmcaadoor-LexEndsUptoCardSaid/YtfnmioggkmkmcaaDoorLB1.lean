/-
  A line.
-/
import Derived.Test.YtfnmioggkmkmcaaDoorLA9
import Derived.Test.YtfnmioggkmkmcaaDoorPLex5
namespace Go.Tri
open Go.Proofs Go.RowKit
theorem tok_end {s : List UInt8} {i j g : Nat} {l : List Tok} {r : LnR} {t : Tok} {ok : Bool} {i' a' e' : Nat} (hx : r = (lineL g j (s.drop j)).app l (j - i)) (hf : (s.drop j).length < g) (hij : i ≤ j) (h : TRel j (tokP (s.drop j)) t ok i' a' e') (hok : ok = false) : LnE i r l i' a' e' := by
  have hs := line_step hx hf
  have hfit := tokP_fit (s.drop j)
  cases ht : tokP (s.drop j) with
  | stop k =>
    rw [ht] at h
    rw [hs.1 k ht]
    exact ⟨rfl, by rw [h.2.2.1]; omega, h.2.2.2.1, h.2.2.2.2⟩
  | bad a e =>
    rw [ht] at h hfit
    rw [hs.2.1 a e ht]
    exact ⟨hfit, h.2.2.1, h.2.2.2⟩
  | tok off k kind text =>
    rw [ht] at h
    rw [h.2.1] at hok; cases hok
theorem tok_go {s : List UInt8} {i j g : Nat} {l : List Tok} {r : LnR} {t : Tok} {ok : Bool} {i' a' e' : Nat} (hx : r = (lineL g j (s.drop j)).app l (j - i)) (hf : (s.drop j).length < g) (hij : i ≤ j) (h : TRel j (tokP (s.drop j)) t ok i' a' e') (hok : ok = true) :
    j < i' ∧ a' = 0 ∧ e' = 0 ∧ (t.kind = 3 → LnE i r (l ++ [t]) i' 0 0) ∧ (¬ t.kind = 3 → r = (lineL (g - 1) i' (s.drop i')).app (l ++ [t]) (i' - i)) := by
  have hs := line_step hx hf
  have hfit := tokP_fit (s.drop j)
  cases ht : tokP (s.drop j) with
  | stop k => rw [ht] at h; rw [h.2.1] at hok; cases hok
  | bad a e => rw [ht] at h; rw [h.2.1] at hok; cases hok
  | tok off k kind text =>
    rw [ht] at h hfit
    obtain ⟨h1, h2, h3, h4, h5⟩ := h
    obtain ⟨s1, s2⟩ := hs.2.2 off k kind text ht
    have hk : 1 ≤ k := hfit.1
    refine ⟨by omega, h4, h5, fun hk3 => ?_, fun hk3 => ?_⟩
    · rw [s1 (by rw [h1] at hk3; exact hk3), ← h1]
      exact ⟨rfl, by rw [h3]; omega, rfl, rfl⟩
    · rw [s2 (by rw [h1] at hk3; exact hk3), ← h1, h3, List.drop_drop]
      congr 1; omega
theorem lineAt_eq {s : List UInt8} {i : Nat} {l : List Tok} {j a e : Nat} (h : LnE i (lineL (s.length + 1) i (s.drop i)) l j a e) : (e ≠ 0 → lineAt s i = ⟨[], 0, a, e⟩) ∧ (e = 0 → (∀ p, docsL s none l j = .bad p → lineAt s i = ⟨[], 0, p, 54⟩) ∧ ∀ ds q, docsL s none l j = .ok ds q → lineAt s i = ⟨ds, q, 0, 0⟩) := by
  unfold lineAt
  refine ⟨fun he => ?_, fun he => ?_⟩
  · rw [h.bad he]
  · obtain ⟨k, h1, h2, _⟩ := h.ok he
    exact ⟨fun p hp => by rw [h2] at hp; simp only [h1, hp], fun ds q hp => by rw [h2] at hp; simp only [h1, hp]⟩
theorem lineL_texts : ∀ (f p : Nat) (l : List UInt8) (ts : List Tok) (k : Nat), lineL f p l = .ok ts k → ∀ t ∈ ts, t.text.length ≤ l.length
  | 0, p, l, ts, k, h => by cases h; simp
  | f + 1, p, l, ts, k, h => by
    rw [lineL] at h
    have hfit := tokP_fit l
    cases ht : tokP l with
    | stop j => simp only [ht] at h; cases h; simp
    | bad a e => simp only [ht] at h; cases h
    | tok off j kind text =>
      simp only [ht] at h
      rw [ht] at hfit
      split at h
      · cases h
        intro t hm
        rw [List.mem_singleton] at hm
        subst hm; exact hfit.2.2.2
      · cases hr : lineL f (p + j) (l.drop j) with
        | bad a e => rw [hr] at h; cases h
        | ok ts' k' =>
          rw [hr] at h
          cases h
          intro t hm
          rcases List.mem_cons.1 hm with rfl | hm
          · exact hfit.2.2.2
          · have := lineL_texts f _ _ _ _ hr t hm
            rw [List.length_drop] at this
            omega
theorem lineP_at {s : List UInt8} {i : Nat} (h1 : s.length ≤ 65536) (h2 : i ≤ s.length) : lineP s (i : Int) = lineAt s i := by
  unfold lineP
  rw [if_neg (by omega), if_neg (by omega)]; rfl
set_option maxRecDepth 10000 in
theorem line_calls (s : List UInt8) (at' : Int) (I : Look) (F : List HA) (w0 w : World) (hs : s.length ≤ 1000000000) (hG : EnvI I) (hw0 : St w0 I F w) : Calls Tryd.prog 10 [str s, .int .i64 at'].toArray w (fun e w' => ∃ v, e = .returned v ∧ ∃ I' H', (Le I I' ∧ F = H' ∧ ∃ vl, v = .tuple #[vl, .int .i64 ((lineP s at').fin : Int), .int .i64 ((lineP s at').place : Int), .int .i64 ((lineP s at').err : Int)] ∧ Sl I' 5 vl ((lineP s at').toks.map tokC)) ∧ St w I' H' w') := by
  refine enter Tryd.func10 rfl Tryd.ntmps10 rfl (hw0.self) ?_
  refine t_seq ?_
  refine t_region ?_
  refine l_q rfl rfl rfl (q_assign rfl rfl) ?_
  refine l_q rfl rfl rfl (q_assign rfl rfl) ?_
  refine l_q rfl rfl rfl (q_assign rfl rfl) ?_
  refine l_q rfl rfl rfl (q_assign rfl rfl) ?_
  refine l_nil ?_
  refine n_then ?_
  refine t_seq ?_
  refine t_block ?_
  refine t_seq ?_
  refine t_region ?_
  refine l_q rfl rfl rfl (q_move rfl rfl) ?_
  refine l_q rfl rfl rfl (q_len_str rfl Tryd.underlying9 rfl) ?_
  refine l_q rfl rfl rfl (q_gtr rfl rfl rfl) ?_
  refine l_q rfl rfl rfl (q_assign rfl rfl) ?_
  refine l_nil ?_
  refine n_then ?_
  refine t_cond rfl (fun hc0 => ?_) (fun hc0 => ?_)
  · skip
    try simp at hc0
    have hlp : lineP s at' = ⟨[], 0, 0, 50⟩ := by unfold lineP; rw [if_pos (by omega)]
    refine t_seq ?_
    refine t_region ?_
    refine l_q rfl rfl rfl (q_assign rfl rfl) ?_
    refine l_q rfl rfl rfl (q_assign rfl rfl) ?_
    refine l_q rfl rfl rfl (q_assign rfl rfl) ?_
    refine l_q rfl rfl rfl (q_assign rfl rfl) ?_
    refine l_nil ?_
    refine n_then ?_
    refine t_ret ?_
    refine n_ret_block ?_
    refine n_ret_then ?_
    refine n_ret4 rfl rfl rfl rfl rfl (fun w' hw => ?_)
    -- leaf 0
    exact ⟨_, rfl, I, _, ⟨Le.refl _, rfl, (.slice none 0 0), (by rw [hlp]; rfl), (by rw [hlp]; exact sl_nil (fun _ h => by cases h))⟩, hw⟩
  · skip
    try simp at hc0
    have hs6 : s.length ≤ 65536 := by omega
    refine t_seq ?_
    refine t_qreg ?_
    refine s_q rfl rfl rfl (q_move rfl rfl) ?_
    refine s_q rfl rfl rfl (q_lss rfl rfl rfl) ?_
    refine s_q rfl rfl rfl (q_move rfl rfl) ?_
    refine s_or2 4 2 24 29 28 _ _ rfl rfl rfl rfl rfl rfl (fun h29 => by
        try simp at h29
        refine s_g rfl rfl rfl rfl rfl rfl (q_move rfl rfl) ?_
        refine s_g rfl rfl rfl rfl rfl rfl (q_move rfl rfl) ?_
        refine s_g rfl rfl rfl rfl rfl rfl (q_len_str rfl Tryd.underlying9 rfl) ?_
        refine s_g rfl rfl rfl rfl rfl rfl (q_gtr rfl rfl rfl) ?_
        exact s_val rfl
      ) (wanted_n rfl) rfl rfl rfl ?_
    refine s_q rfl rfl rfl (q_assign rfl rfl) ?_
    refine s_done ?_
    refine n_then ?_
    refine t_cond rfl (fun hc1 => ?_) (fun hc1 => ?_)
    · skip
      have h1 : (decide (at' < 0) || decide ((s.length : Int) < at')) = true := hc1
      have hlp : lineP s at' = ⟨[], 0, 0, 73⟩ := by unfold lineP; rw [if_neg (by omega), if_pos (by simpa using h1)]
      refine t_seq ?_
      refine t_region ?_
      refine l_q rfl rfl rfl (q_assign rfl rfl) ?_
      refine l_q rfl rfl rfl (q_assign rfl rfl) ?_
      refine l_q rfl rfl rfl (q_assign rfl rfl) ?_
      refine l_q rfl rfl rfl (q_assign rfl rfl) ?_
      refine l_nil ?_
      refine n_then ?_
      refine t_ret ?_
      refine n_ret_block ?_
      refine n_ret_then ?_
      refine n_ret4 rfl rfl rfl rfl rfl (fun w' hw => ?_)
      -- leaf 1
      exact ⟨_, rfl, I, _, ⟨Le.refl _, rfl, (.slice none 0 0), (by rw [hlp]; rfl), (by rw [hlp]; exact sl_nil (fun _ h => by cases h))⟩, hw⟩
    · skip
      have h1 : (decide (at' < 0) || decide ((s.length : Int) < at')) = false := hc1
      simp only [Bool.or_eq_false_iff, decide_eq_false_iff_not] at h1
      obtain ⟨i, rfl⟩ : ∃ i : Nat, at' = (i : Int) := ⟨at'.toNat, by omega⟩
      have hi : i ≤ s.length := by omega
      refine t_skip ?_
      refine n_block ?_
      refine n_then ?_
      refine t_seq ?_
      refine t_region ?_
      refine l_q rfl rfl rfl (q_move rfl rfl) ?_
      refine l_q rfl rfl rfl (q_move rfl rfl) ?_
      refine l_q rfl rfl rfl (q_build (pl := [(_, _), (_, _), (_, _)]) (cs := (scC s i 0 0).toArray) rfl Tryd.underlying51 ti51 ⟨rfl, ⟨_, _, ti9⟩, rfl, ⟨_, _, ti3⟩, rfl, ⟨_, _, ti49⟩, trivial⟩ rfl rfl) ?_
      refine l_e rfl rfl rfl (e_box rfl rfl rfl) ?_
      rintro _ _ _ ⟨b33, rfl, rfl, rfl⟩
      refine l_q rfl rfl rfl (q_assign rfl rfl) ?_
      refine l_nil ?_
      refine n_then ?_
      refine t_seq ?_
      refine t_region ?_
      refine l_q rfl rfl rfl (q_assign rfl rfl) ?_
      refine l_nil ?_
      refine n_then ?_
      refine t_cutE (ι := Value × List Tok × Nat × Nat × Nat) (fun zz => LnE i (lineL (s.length + 1) i (s.drop i)) zz.2.1 zz.2.2.1 zz.2.2.2.1 zz.2.2.2.2 ∧ zz.2.2.1 ≤ s.length ∧ zz.2.1.length ≤ s.length + 1) (fun zz => [(9, zz.1)]) [(0, _), (1, _), (4, _), (5, _), (6, _), (7, _), (17, _), (21, _), (8, _)] (fun zz => I) (fun zz => (row b33 51 (scC s zz.2.2.1 zz.2.2.2.1 zz.2.2.2.2) :: tvec 28 5 tokC zz.1 zz.2.1 :: F)) (sub_cons rfl (sub_cons rfl (sub_cons rfl (sub_cons rfl (sub_cons rfl (sub_cons rfl (sub_cons rfl (sub_cons rfl (sub_cons rfl sub_nil))))))))) ?_ ?_
      · skip
        refine t_block ?_
        refine t_loopE (ι := Nat × Nat × Value × List Tok) (fun zz => i ≤ zz.1 ∧ zz.1 ≤ s.length ∧ lineL (s.length + 1) i (s.drop i) = (lineL zz.2.1 zz.1 (s.drop zz.1)).app zz.2.2.2 (zz.1 - i) ∧ (s.drop zz.1).length < zz.2.1 ∧ zz.2.2.2.length ≤ zz.1) (fun zz => s.length - zz.1) (fun zz => [(9, zz.2.2.1)]) [(0, _), (1, _), (4, _), (5, _), (6, _), (7, _), (17, _), (21, _), (8, _)] (fun zz => I) (fun zz => (row b33 51 (scC s zz.1 0 0) :: tvec 28 5 tokC zz.2.2.1 zz.2.2.2 :: F)) (i, s.length + 1, .slice none 0 0, []) ?_ (sub_cons rfl sub_nil) (sub_cons rfl (sub_cons rfl (sub_cons rfl (sub_cons rfl (sub_cons rfl (sub_cons rfl (sub_cons rfl (sub_cons rfl (sub_cons rfl sub_nil))))))))) (fun _ h => subC_st (st_nilT 28 5 tokC h)) ?_
        · try dsimp only
          exact ⟨Nat.le_refl _, hi, by rw [Nat.sub_self, LnR.app_nil], by rw [List.length_drop]; omega, Nat.zero_le _⟩
        rintro ⟨j, g, v, l⟩ ⟨hj1, hj2, hx, hfl, hll⟩
        try dsimp only at *
        refine t_block ?_
        refine t_seq ?_
        refine t_region ?_
        refine l_q rfl rfl rfl (q_move rfl rfl) ?_
        refine l_e rfl rfl rfl (eff_call rfl rfl rfl Tryd.func16 (by kernel_rfl) rfl (fun w hw => token_calls b33 s j _ _ _ w (by omega) (by omega) (hG.mono (Le.refl _)) (picks_st1 (row b33 51 (scC s j 0 0)) hw))) ?_
        rintro _ _ _ ⟨rfl, tt, ok36, i36, a36, e36, rfl, htr, hi36, rfl⟩
        refine l_q rfl rfl rfl (q_move rfl rfl) ?_
        refine l_q rfl rfl rfl (q_extract rfl rfl rfl) ?_
        refine l_q rfl rfl rfl (q_extract rfl rfl rfl) ?_
        refine l_e rfl rfl rfl (e_alloc rfl ti28 rfl) ?_
        rintro _ _ _ ⟨b10, rfl, rfl, rfl⟩
        refine l_e0 rfl rfl ((by first | exact e_store_all rfl ti28 rfl rfl rfl (by first | exact chC_ones _ | exact pcC_ones _ | exact tokC_ones _ | simp [Value.oneCell', str, u8]) rfl | exact e_store_agg rfl ti28 rfl rfl rfl (by first | exact chC_ones _ | exact pcC_ones _ | exact tokC_ones _ | simp [Value.oneCell', str, u8]) rfl)) ?_
        rintro _ _ _ ⟨rfl, rfl⟩
        refine l_q rfl rfl rfl (q_assign rfl rfl) ?_
        refine l_nil ?_
        refine n_then ?_
        refine t_seq ?_
        refine t_seq ?_
        refine t_region ?_
        refine l_q rfl rfl rfl (q_move rfl rfl) ?_
        refine l_q rfl rfl rfl (q_not rfl rfl) ?_
        refine l_nil ?_
        refine n_then ?_
        refine t_cond rfl (fun hc2 => ?_) (fun hc2 => ?_)
        · skip
          have hend := tok_end hx hfl hj1 htr (by simpa using hc2)
          refine t_exit ?_
          refine n_exit_then ?_
          refine n_exit_other rfl ?_
          refine n_exit_then ?_
          refine n_exit_block ?_
          refine n_cut ((v, l, i36, a36, e36)) ?_ (sub_cons rfl sub_nil) (sub_cons rfl (sub_cons rfl (sub_cons rfl (sub_cons rfl (sub_cons rfl (sub_cons rfl (sub_cons rfl (sub_cons rfl (sub_cons rfl sub_nil))))))))) (fun _ h => by try dsimp only; exact subC_st h)
          · try dsimp only
            exact ⟨hend, hi36, by omega⟩
        · skip
          have hgo := tok_go hx hfl hj1 htr (by simpa using hc2)
          refine t_skip ?_
          refine n_then ?_
          refine t_seq ?_
          refine t_region ?_
          refine l_q rfl rfl rfl (q_move rfl rfl) ?_
          refine l_q rfl rfl rfl (q_load_rowA rfl Tryd.underlying28 ti28 rfl rfl rfl) ?_
          refine l_e rfl rfl rfl (e_buildSlice1 rfl Tryd.underlying23 ti28 rfl rfl rfl (by first | exact One.cells (by assumption) | exact One.cells hone | rfl) rfl) ?_
          rintro _ _ _ ⟨b43, rfl, rfl, rfl⟩
          refine l_e rfl rfl rfl (e_appendT (f := tokC) (c := tt) rfl Tryd.underlying23 ti28 rfl rfl rfl rfl rfl rfl rfl (by first | exact tokC_ones _ | exact byC_ones _ | exact chC_ones _ | exact pcC_ones _ | simp [Value.oneCell', str, u8] | exact ones1 (by assumption)) (by simp only [maxLen]; omega) (by omega)) ?_
          rintro v44 _ _ ⟨rfl, rfl⟩
          refine l_one v44 (fun hone => ?_)
          refine l_q rfl rfl rfl (q_assign rfl rfl) ?_
          refine l_nil ?_
          refine n_then ?_
          refine t_seq ?_
          refine t_region ?_
          refine l_q rfl rfl rfl (q_fieldAddr rfl Tryd.underlying28 rfl rfl ti3 rfl rfl) ?_
          refine l_q rfl rfl rfl ((by first | exact q_load_row rfl Tryd.underlying3 rfl rfl (by rfl) | exact q_load_vecF rfl Tryd.underlying3 rfl rfl (vec_at (fo := 0) (f := tokC) (d := tok0) (fun _ => rfl) (show n < cur.length by omega) rfl) | exact q_load_vecF rfl Tryd.underlying3 rfl rfl (vec_at (fo := 0) (f := tokC) (d := tok0) (fun _ => rfl) (show n - 1 < cur.length by omega) rfl) | exact q_load_vecF rfl Tryd.underlying3 rfl rfl (vec_at (fo := 1) (f := tokC) (d := tok0) (fun _ => rfl) (show n < cur.length by omega) rfl) | exact q_load_vecF rfl Tryd.underlying3 rfl rfl (vec_at (fo := 1) (f := tokC) (d := tok0) (fun _ => rfl) (show n - 1 < cur.length by omega) rfl) | exact q_load_vecF rfl Tryd.underlying3 rfl rfl (vec_at (fo := 2) (f := tokC) (d := tok0) (fun _ => rfl) (show n < cur.length by omega) rfl))) ?_
          refine l_q rfl rfl rfl (q_eql rfl rfl rfl) ?_
          refine l_nil ?_
          refine n_then ?_
          refine t_cond rfl (fun hc3 => ?_) (fun hc3 => ?_)
          · skip
            try simp at hc3
            have hc3 : tt.kind = 3 := by omega
            refine t_exit ?_
            refine n_exit_other rfl ?_
            refine n_exit_then ?_
            refine n_exit_block ?_
            refine n_cut ((v44, l ++ [tt], i36, a36, e36)) ?_ (sub_cons rfl sub_nil) (sub_cons rfl (sub_cons rfl (sub_cons rfl (sub_cons rfl (sub_cons rfl (sub_cons rfl (sub_cons rfl (sub_cons rfl (sub_cons rfl sub_nil))))))))) (fun _ h => by try dsimp only; exact subC_st h)
            · try dsimp only
              refine ⟨?_, hi36, by simp only [List.length_append, List.length_cons, List.length_nil]; omega⟩
              obtain ⟨_, h1, h2, h3, _⟩ := hgo
              rw [h1, h2]
              exact h3 hc3
          · skip
            try simp at hc3
            have hc3 : ¬ tt.kind = 3 := by omega
            refine t_skip ?_
            refine n_block ?_
            refine n_roundE ((i36, g - 1, v44, l ++ [tt])) ?_ ?_ (sub_cons rfl sub_nil) (sub_cons rfl (sub_cons rfl (sub_cons rfl (sub_cons rfl (sub_cons rfl (sub_cons rfl (sub_cons rfl (sub_cons rfl (sub_cons rfl sub_nil))))))))) (fun _ h => by obtain ⟨_, h1, h2, _⟩ := hgo; subst h1; subst h2; dsimp only; exact subC_st h)
            · try dsimp only
              refine ⟨by omega, hi36, hgo.2.2.2.2 hc3, ?_, by simp only [List.length_append, List.length_cons, List.length_nil]; omega⟩
              rw [List.length_drop] at hfl ⊢; omega
            · try dsimp only
              show s.length - i36 < s.length - j
              omega
      rintro ⟨v, l, jb, ab, eb⟩ ⟨hln, hjb, hlb⟩
      try dsimp only at *
      have hla := lineAt_eq hln
      have hlp := lineP_at (s := s) (i := i) hs6 hi
      refine t_seq ?_
      refine t_seq ?_
      refine t_region ?_
      refine l_q rfl rfl rfl (q_move rfl rfl) ?_
      refine l_q rfl rfl rfl (q_nilCheck rfl rfl) ?_
      refine l_q rfl rfl rfl (q_fieldAddr rfl Tryd.underlying51 rfl rfl ti49 rfl rfl) ?_
      refine l_q rfl rfl rfl (q_fieldAddr rfl Tryd.underlying49 rfl rfl ti24 rfl rfl) ?_
      refine l_q rfl rfl rfl ((by first | exact q_load_row rfl Tryd.underlying24 rfl rfl (by rfl) | exact q_load_vecF rfl Tryd.underlying24 rfl rfl (vec_at (fo := 0) (f := tokC) (d := tok0) (fun _ => rfl) (show n < cur.length by omega) rfl) | exact q_load_vecF rfl Tryd.underlying24 rfl rfl (vec_at (fo := 0) (f := tokC) (d := tok0) (fun _ => rfl) (show n - 1 < cur.length by omega) rfl) | exact q_load_vecF rfl Tryd.underlying24 rfl rfl (vec_at (fo := 1) (f := tokC) (d := tok0) (fun _ => rfl) (show n < cur.length by omega) rfl) | exact q_load_vecF rfl Tryd.underlying24 rfl rfl (vec_at (fo := 1) (f := tokC) (d := tok0) (fun _ => rfl) (show n - 1 < cur.length by omega) rfl) | exact q_load_vecF rfl Tryd.underlying24 rfl rfl (vec_at (fo := 2) (f := tokC) (d := tok0) (fun _ => rfl) (show n < cur.length by omega) rfl))) ?_
      refine l_q rfl rfl rfl (q_neq rfl rfl rfl) ?_
      refine l_nil ?_
      refine n_then ?_
      refine t_cond rfl (fun hc4 => ?_) (fun hc4 => ?_)
      · skip
        try simp at hc4
        have he : eb ≠ 0 := by omega
        have hres := hla.1 he
        rw [← hlp] at hres
        refine t_seq ?_
        refine t_qdraw mo (by kernel_rfl) (fun _ _ _ _ _ h => h) ?_
        refine s_q rfl rfl rfl (q_move rfl rfl) ?_
        refine s_q rfl rfl rfl (q_nilCheck rfl rfl) ?_
        refine s_q rfl rfl rfl (q_fieldAddr rfl Tryd.underlying51 rfl rfl ti49 rfl rfl) ?_
        refine s_q rfl rfl rfl (q_fieldAddr rfl Tryd.underlying49 rfl rfl ti3 rfl rfl) ?_
        refine s_q rfl rfl rfl ((by first | exact q_load_row rfl Tryd.underlying3 rfl rfl (by rfl) | exact q_load_vecF rfl Tryd.underlying3 rfl rfl (vec_at (fo := 0) (f := tokC) (d := tok0) (fun _ => rfl) (show n < cur.length by omega) rfl) | exact q_load_vecF rfl Tryd.underlying3 rfl rfl (vec_at (fo := 0) (f := tokC) (d := tok0) (fun _ => rfl) (show n - 1 < cur.length by omega) rfl) | exact q_load_vecF rfl Tryd.underlying3 rfl rfl (vec_at (fo := 1) (f := tokC) (d := tok0) (fun _ => rfl) (show n < cur.length by omega) rfl) | exact q_load_vecF rfl Tryd.underlying3 rfl rfl (vec_at (fo := 1) (f := tokC) (d := tok0) (fun _ => rfl) (show n - 1 < cur.length by omega) rfl) | exact q_load_vecF rfl Tryd.underlying3 rfl rfl (vec_at (fo := 2) (f := tokC) (d := tok0) (fun _ => rfl) (show n < cur.length by omega) rfl))) ?_
        refine s_q rfl rfl rfl (q_move rfl rfl) ?_
        refine s_q rfl rfl rfl (q_nilCheck rfl rfl) ?_
        refine s_q rfl rfl rfl (q_fieldAddr rfl Tryd.underlying51 rfl rfl ti49 rfl rfl) ?_
        refine s_q rfl rfl rfl (q_fieldAddr rfl Tryd.underlying49 rfl rfl ti24 rfl rfl) ?_
        refine s_q rfl rfl rfl ((by first | exact q_load_row rfl Tryd.underlying24 rfl rfl (by rfl) | exact q_load_vecF rfl Tryd.underlying24 rfl rfl (vec_at (fo := 0) (f := tokC) (d := tok0) (fun _ => rfl) (show n < cur.length by omega) rfl) | exact q_load_vecF rfl Tryd.underlying24 rfl rfl (vec_at (fo := 0) (f := tokC) (d := tok0) (fun _ => rfl) (show n - 1 < cur.length by omega) rfl) | exact q_load_vecF rfl Tryd.underlying24 rfl rfl (vec_at (fo := 1) (f := tokC) (d := tok0) (fun _ => rfl) (show n < cur.length by omega) rfl) | exact q_load_vecF rfl Tryd.underlying24 rfl rfl (vec_at (fo := 1) (f := tokC) (d := tok0) (fun _ => rfl) (show n - 1 < cur.length by omega) rfl) | exact q_load_vecF rfl Tryd.underlying24 rfl rfl (vec_at (fo := 2) (f := tokC) (d := tok0) (fun _ => rfl) (show n < cur.length by omega) rfl))) ?_
        refine s_q rfl rfl rfl (q_assign rfl rfl) ?_
        refine s_q rfl rfl rfl (q_assign rfl rfl) ?_
        refine s_q rfl rfl rfl (q_assign rfl rfl) ?_
        refine s_q rfl rfl rfl (q_assign rfl rfl) ?_
        refine s_done ?_
        refine n_then ?_
        refine t_ret ?_
        refine n_ret_then ?_
        refine n_ret4 rfl rfl rfl rfl rfl (fun w' hw => ?_)
        -- leaf 2
        exact ⟨_, rfl, I, _, ⟨Le.refl _, rfl, (.slice none 0 0), (by rw [hres]; rfl), (by rw [hres]; exact sl_nil (fun _ h => by cases h))⟩, subC_st hw⟩
      · skip
        try simp at hc4
        obtain rfl : eb = 0 := by omega
        obtain ⟨kx, hlx, _, rfl⟩ := hln.ok rfl
        have hTx : ∀ m, m < l.length → (nth l m tok0).text.length ≤ s.length := fun m hm => Nat.le_trans (lineL_texts _ _ _ _ _ hlx _ (nth_mem hm)) (by rw [List.length_drop]; omega)
        have hla2 := hla.2 rfl
        rw [← hlp] at hla2
        refine t_skip ?_
        refine n_then ?_
        refine t_seq ?_
        refine t_seq ?_
        refine t_region ?_
        refine l_q rfl rfl rfl (q_move rfl rfl) ?_
        refine l_q rfl rfl rfl ((by first | exact q_lenV rfl Tryd.underlying23 rfl | exact q_len rfl Tryd.underlying23 rfl (Sl.len ‹_›))) ?_
        refine l_q rfl rfl rfl (q_move rfl rfl) ?_
        refine l_nil ?_
        refine n_then ?_
        refine t_block ?_
        refine t_loopE (ι := Nat × List Tok × Nat) (fun zz => DInv s l jb zz.1 zz.2.1 zz.2.2 ∧ zz.2.2 ≤ s.length) (fun zz => l.length - zz.1) (fun zz => [(66, .int .i64 (zz.1 : Int))]) [(9, _), (0, _), (1, _), (17, _), (21, _), (8, _), (53, _), (65, _)] (fun zz => I) (fun zz => (row b33 51 (scC s zz.2.2 0 0) :: tvec 28 5 tokC v zz.2.1 :: F)) (0, l, jb) ?_ (sub_cons rfl sub_nil) (sub_cons rfl (sub_cons rfl (sub_cons rfl (sub_cons rfl (sub_cons rfl (sub_cons rfl (sub_cons rfl (sub_cons rfl sub_nil)))))))) (fun _ h => subC_st h) ?_
        · try dsimp only
          exact ⟨DInv.start s l jb, hjb⟩
        rintro ⟨n, cur, jj⟩ ⟨hD, hjj⟩
        try dsimp only at *
        have hcl := hD.len
        refine t_seq ?_
        refine t_region ?_
        refine l_q rfl rfl rfl (q_lss rfl rfl rfl) ?_
        refine l_nil ?_
        refine n_then ?_
        refine t_seq ?_
        refine t_cond rfl (fun hc5 => ?_) (fun hc5 => ?_)
        · skip
          try simp at hc5
          have hn : n < l.length := by omega
          refine t_skip ?_
          refine n_then ?_
          refine t_seq ?_
          refine t_block ?_
          refine t_seq ?_
          refine t_region ?_
          refine l_q rfl rfl rfl (q_move rfl rfl) ?_
          refine l_q rfl rfl rfl (q_assign rfl rfl) ?_
          refine l_nil ?_
          refine n_then ?_
          refine t_seq ?_
          refine t_seq ?_
          refine t_qreg ?_
          refine s_q rfl rfl rfl (q_move rfl rfl) ?_
          refine s_q rfl rfl rfl (q_eql rfl rfl rfl) ?_
          refine s_q rfl rfl rfl (q_move rfl rfl) ?_
          refine s_or2 6 2 71 78 77 _ _ rfl rfl rfl rfl rfl rfl (fun h78 => by
              try simp at h78
              refine s_g rfl rfl rfl rfl rfl rfl (q_move rfl rfl) ?_
              refine s_g rfl rfl rfl rfl rfl rfl (q_move rfl rfl) ?_
              refine s_g rfl rfl rfl rfl rfl rfl ((by first | exact q_indexAddrVN rfl Tryd.underlying23 ti28 rfl rfl (by omega) | exact q_indexAddrN rfl Tryd.underlying23 ti28 rfl rfl (Sl.shape ‹_› (by simp)) (by omega) | exact q_indexAddrV rfl Tryd.underlying23 ti28 rfl rfl (by omega) | exact q_indexAddr rfl Tryd.underlying23 ti28 rfl rfl (Sl.shape ‹_› (by simp)) (by omega))) ?_
              refine s_g rfl rfl rfl rfl rfl rfl (q_fieldAddr rfl Tryd.underlying28 rfl rfl ti3 rfl rfl) ?_
              refine s_g rfl rfl rfl rfl rfl rfl ((by first | exact q_load_row rfl Tryd.underlying3 rfl rfl (by rfl) | exact q_load_vecF rfl Tryd.underlying3 rfl rfl (vec_at (fo := 0) (f := tokC) (d := tok0) (fun _ => rfl) (show n < cur.length by omega) rfl) | exact q_load_vecF rfl Tryd.underlying3 rfl rfl (vec_at (fo := 0) (f := tokC) (d := tok0) (fun _ => rfl) (show n - 1 < cur.length by omega) rfl) | exact q_load_vecF rfl Tryd.underlying3 rfl rfl (vec_at (fo := 1) (f := tokC) (d := tok0) (fun _ => rfl) (show n < cur.length by omega) rfl) | exact q_load_vecF rfl Tryd.underlying3 rfl rfl (vec_at (fo := 1) (f := tokC) (d := tok0) (fun _ => rfl) (show n - 1 < cur.length by omega) rfl) | exact q_load_vecF rfl Tryd.underlying3 rfl rfl (vec_at (fo := 2) (f := tokC) (d := tok0) (fun _ => rfl) (show n < cur.length by omega) rfl))) ?_
              refine s_g rfl rfl rfl rfl rfl rfl (q_neq rfl rfl rfl) ?_
              exact s_val rfl
            ) (wanted_n rfl) rfl rfl rfl ?_
          refine s_q rfl rfl rfl (q_move rfl rfl) ?_
          refine s_or2 7 10 79 87 86 _ _ rfl rfl rfl rfl rfl rfl (fun h87 => by
              try simp at h87
              refine s_g rfl rfl rfl rfl rfl rfl (q_move rfl rfl) ?_
              refine s_g rfl rfl rfl rfl rfl rfl (q_move rfl rfl) ?_
              refine s_g rfl rfl rfl rfl rfl rfl (q_sub64 rfl rfl rfl (by omega)) ?_
              rw [show (n : Int) - 1 = ((n - 1 : Nat) : Int) by omega]
              refine s_g rfl rfl rfl rfl rfl rfl ((by first | exact q_indexAddrVN rfl Tryd.underlying23 ti28 rfl rfl (by omega) | exact q_indexAddrN rfl Tryd.underlying23 ti28 rfl rfl (Sl.shape ‹_› (by simp)) (by omega) | exact q_indexAddrV rfl Tryd.underlying23 ti28 rfl rfl (by omega) | exact q_indexAddr rfl Tryd.underlying23 ti28 rfl rfl (Sl.shape ‹_› (by simp)) (by omega))) ?_
              refine s_g rfl rfl rfl rfl rfl rfl (q_fieldAddr rfl Tryd.underlying28 rfl rfl ti3 rfl rfl) ?_
              refine s_g rfl rfl rfl rfl rfl rfl ((by first | exact q_load_row rfl Tryd.underlying3 rfl rfl (by rfl) | exact q_load_vecF rfl Tryd.underlying3 rfl rfl (vec_at (fo := 0) (f := tokC) (d := tok0) (fun _ => rfl) (show n < cur.length by omega) rfl) | exact q_load_vecF rfl Tryd.underlying3 rfl rfl (vec_at (fo := 0) (f := tokC) (d := tok0) (fun _ => rfl) (show n - 1 < cur.length by omega) rfl) | exact q_load_vecF rfl Tryd.underlying3 rfl rfl (vec_at (fo := 1) (f := tokC) (d := tok0) (fun _ => rfl) (show n < cur.length by omega) rfl) | exact q_load_vecF rfl Tryd.underlying3 rfl rfl (vec_at (fo := 1) (f := tokC) (d := tok0) (fun _ => rfl) (show n - 1 < cur.length by omega) rfl) | exact q_load_vecF rfl Tryd.underlying3 rfl rfl (vec_at (fo := 2) (f := tokC) (d := tok0) (fun _ => rfl) (show n < cur.length by omega) rfl))) ?_
              refine s_g rfl rfl rfl rfl rfl rfl (q_neq rfl rfl rfl) ?_
              exact s_val rfl
            ) (wanted_n rfl) rfl rfl rfl ?_
          refine s_q rfl rfl rfl (q_move rfl rfl) ?_
          refine s_or2 8 19 88 97 96 _ _ rfl rfl rfl rfl rfl rfl (fun h97 => by
              try simp at h97
              refine s_g rfl rfl rfl rfl rfl rfl (q_move rfl rfl) ?_
              refine s_g rfl rfl rfl rfl rfl rfl (q_move rfl rfl) ?_
              refine s_g rfl rfl rfl rfl rfl rfl (q_sub64 rfl rfl rfl (by omega)) ?_
              rw [show (n : Int) - 1 = ((n - 1 : Nat) : Int) by omega]
              refine s_g rfl rfl rfl rfl rfl rfl ((by first | exact q_indexAddrVN rfl Tryd.underlying23 ti28 rfl rfl (by omega) | exact q_indexAddrN rfl Tryd.underlying23 ti28 rfl rfl (Sl.shape ‹_› (by simp)) (by omega) | exact q_indexAddrV rfl Tryd.underlying23 ti28 rfl rfl (by omega) | exact q_indexAddr rfl Tryd.underlying23 ti28 rfl rfl (Sl.shape ‹_› (by simp)) (by omega))) ?_
              refine s_g rfl rfl rfl rfl rfl rfl (q_fieldAddr rfl Tryd.underlying28 rfl rfl ti9 rfl rfl) ?_
              refine s_g rfl rfl rfl rfl rfl rfl ((by first | exact q_load_row rfl Tryd.underlying9 rfl rfl (by rfl) | exact q_load_vecF rfl Tryd.underlying9 rfl rfl (vec_at (fo := 0) (f := tokC) (d := tok0) (fun _ => rfl) (show n < cur.length by omega) rfl) | exact q_load_vecF rfl Tryd.underlying9 rfl rfl (vec_at (fo := 0) (f := tokC) (d := tok0) (fun _ => rfl) (show n - 1 < cur.length by omega) rfl) | exact q_load_vecF rfl Tryd.underlying9 rfl rfl (vec_at (fo := 1) (f := tokC) (d := tok0) (fun _ => rfl) (show n < cur.length by omega) rfl) | exact q_load_vecF rfl Tryd.underlying9 rfl rfl (vec_at (fo := 1) (f := tokC) (d := tok0) (fun _ => rfl) (show n - 1 < cur.length by omega) rfl) | exact q_load_vecF rfl Tryd.underlying9 rfl rfl (vec_at (fo := 2) (f := tokC) (d := tok0) (fun _ => rfl) (show n < cur.length by omega) rfl))) ?_
              refine s_g rfl rfl rfl rfl rfl rfl (quiet_call rfl rfl rfl Tryd.func17 (by kernel_rfl) rfl ((fun w _ => hasPrefix_pure (nth cur (n - 1) tok0).text [60, 60] w))) ?_
              refine s_g rfl rfl rfl rfl rfl rfl (q_not rfl rfl) ?_
              exact s_val rfl
            ) (wanted_n rfl) rfl rfl rfl ?_
          refine s_done ?_
          refine n_then ?_
          refine t_cond rfl (fun hc6 => ?_) (fun hc6 => ?_)
          · skip
            have hhere : (!(decide ((n : Int) = 0) || decide (((nth cur n tok0).kind : Int) ≠ 1) || decide (((nth cur (n - 1) tok0).kind : Int) ≠ 2) || !stB (nth cur (n - 1) tok0).text [60, 60])) = false := by rw [show (_ || _ || _ || _) = true from hc6]; rfl
            refine t_exit ?_
            refine n_exit_then ?_
            refine n_exit_block ?_
            refine n_then ?_
            refine t_region ?_
            refine l_q rfl rfl rfl (q_add64 rfl rfl rfl (by omega)) ?_
            refine l_q rfl rfl rfl (q_move rfl rfl) ?_
            refine l_nil ?_
            refine n_roundE ((n + 1, cur, jj)) ?_ ?_ (sub_cons rfl sub_nil) (sub_cons rfl (sub_cons rfl (sub_cons rfl (sub_cons rfl (sub_cons rfl (sub_cons rfl (sub_cons rfl (sub_cons rfl sub_nil)))))))) (fun _ h => by try dsimp only; exact subC_st h)
            · try dsimp only
              exact ⟨hD.skip hn (by rw [hD.here hn]; exact hhere), hjj⟩
            · try dsimp only
              show l.length - (n + 1) < l.length - n
              omega
          · skip
            have hh : hereB (prevOf l n) (nth l n tok0) = true := by rw [hD.here hn, show (_ || _ || _ || _) = false from hc6]; rfl
            have hn0 : 0 < n := by
              rcases Nat.eq_zero_or_pos n with h | h
              · subst h; cases hh
              · exact h
            refine t_skip ?_
            refine n_then ?_
            refine t_seq ?_
            refine t_region ?_
            refine l_q rfl rfl rfl (q_move rfl rfl) ?_
            refine l_q rfl rfl rfl (q_move rfl rfl) ?_
            refine l_q rfl rfl rfl ((by first | exact q_indexAddrVN rfl Tryd.underlying23 ti28 rfl rfl (by omega) | exact q_indexAddrN rfl Tryd.underlying23 ti28 rfl rfl (Sl.shape ‹_› (by simp)) (by omega) | exact q_indexAddrV rfl Tryd.underlying23 ti28 rfl rfl (by omega) | exact q_indexAddr rfl Tryd.underlying23 ti28 rfl rfl (Sl.shape ‹_› (by simp)) (by omega))) ?_
            refine l_q rfl rfl rfl (q_fieldAddr rfl Tryd.underlying28 rfl rfl ti9 rfl rfl) ?_
            refine l_q rfl rfl rfl ((by first | exact q_load_row rfl Tryd.underlying9 rfl rfl (by rfl) | exact q_load_vecF rfl Tryd.underlying9 rfl rfl (vec_at (fo := 0) (f := tokC) (d := tok0) (fun _ => rfl) (show n < cur.length by omega) rfl) | exact q_load_vecF rfl Tryd.underlying9 rfl rfl (vec_at (fo := 0) (f := tokC) (d := tok0) (fun _ => rfl) (show n - 1 < cur.length by omega) rfl) | exact q_load_vecF rfl Tryd.underlying9 rfl rfl (vec_at (fo := 1) (f := tokC) (d := tok0) (fun _ => rfl) (show n < cur.length by omega) rfl) | exact q_load_vecF rfl Tryd.underlying9 rfl rfl (vec_at (fo := 1) (f := tokC) (d := tok0) (fun _ => rfl) (show n - 1 < cur.length by omega) rfl) | exact q_load_vecF rfl Tryd.underlying9 rfl rfl (vec_at (fo := 2) (f := tokC) (d := tok0) (fun _ => rfl) (show n < cur.length by omega) rfl))) ?_
            refine l_q rfl rfl rfl (quiet_call rfl rfl rfl Tryd.func18 (by kernel_rfl) rfl ((fun w _ => bare_pure (nth cur n tok0).text w (by rw [hD.cur_at hn]; have := hTx n hn; omega)))) ?_
            refine l_q rfl rfl rfl (q_move rfl rfl) ?_
            refine l_q rfl rfl rfl (q_extract rfl rfl rfl) ?_
            refine l_q rfl rfl rfl (q_extract rfl rfl rfl) ?_
            refine l_q rfl rfl rfl (q_assign rfl rfl) ?_
            refine l_q rfl rfl rfl (q_assign rfl rfl) ?_
            refine l_nil ?_
            refine n_then ?_
            refine t_seq ?_
            refine t_region ?_
            refine l_q rfl rfl rfl (q_move rfl rfl) ?_
            refine l_q rfl rfl rfl (q_move rfl rfl) ?_
            refine l_q rfl rfl rfl (q_move rfl rfl) ?_
            refine l_q rfl rfl rfl (q_move rfl rfl) ?_
            refine l_q rfl rfl rfl (q_sub64 rfl rfl rfl (by omega)) ?_
            rw [show (n : Int) - 1 = ((n - 1 : Nat) : Int) by omega]
            refine l_q rfl rfl rfl ((by first | exact q_indexAddrVN rfl Tryd.underlying23 ti28 rfl rfl (by omega) | exact q_indexAddrN rfl Tryd.underlying23 ti28 rfl rfl (Sl.shape ‹_› (by simp)) (by omega) | exact q_indexAddrV rfl Tryd.underlying23 ti28 rfl rfl (by omega) | exact q_indexAddr rfl Tryd.underlying23 ti28 rfl rfl (Sl.shape ‹_› (by simp)) (by omega))) ?_
            refine l_q rfl rfl rfl (q_fieldAddr rfl Tryd.underlying28 rfl rfl ti9 rfl rfl) ?_
            refine l_q rfl rfl rfl ((by first | exact q_load_row rfl Tryd.underlying9 rfl rfl (by rfl) | exact q_load_vecF rfl Tryd.underlying9 rfl rfl (vec_at (fo := 0) (f := tokC) (d := tok0) (fun _ => rfl) (show n < cur.length by omega) rfl) | exact q_load_vecF rfl Tryd.underlying9 rfl rfl (vec_at (fo := 0) (f := tokC) (d := tok0) (fun _ => rfl) (show n - 1 < cur.length by omega) rfl) | exact q_load_vecF rfl Tryd.underlying9 rfl rfl (vec_at (fo := 1) (f := tokC) (d := tok0) (fun _ => rfl) (show n < cur.length by omega) rfl) | exact q_load_vecF rfl Tryd.underlying9 rfl rfl (vec_at (fo := 1) (f := tokC) (d := tok0) (fun _ => rfl) (show n - 1 < cur.length by omega) rfl) | exact q_load_vecF rfl Tryd.underlying9 rfl rfl (vec_at (fo := 2) (f := tokC) (d := tok0) (fun _ => rfl) (show n < cur.length by omega) rfl))) ?_
            refine l_q rfl rfl rfl (q_eql_str rfl rfl rfl) ?_
            refine l_e rfl rfl rfl (eff_call rfl rfl rfl Tryd.func19 (by kernel_rfl) rfl (fun w hw => document_calls b33 s (bareP (nth cur n tok0).text) (decide ((nth cur (n - 1) tok0).text = [60, 60, 45])) jj _ _ _ w (by omega) (by omega) hG (picks_st1 (row b33 51 (scC s jj 0 0)) hw))) ?_
            rintro _ _ _ ⟨rfl, dd, ok117, i117, rfl, hdr, hi117, rfl⟩
            refine l_q rfl rfl rfl (q_move rfl rfl) ?_
            refine l_q rfl rfl rfl (q_extract rfl rfl rfl) ?_
            refine l_q rfl rfl rfl (q_extract rfl rfl rfl) ?_
            refine l_q rfl rfl rfl (q_assign rfl rfl) ?_
            refine l_q rfl rfl rfl (q_assign rfl rfl) ?_
            refine l_nil ?_
            refine n_then ?_
            refine t_seq ?_
            refine t_seq ?_
            refine t_region ?_
            refine l_q rfl rfl rfl (q_move rfl rfl) ?_
            refine l_q rfl rfl rfl (q_not rfl rfl) ?_
            refine l_nil ?_
            refine n_then ?_
            refine t_cond rfl (fun hc7 => ?_) (fun hc7 => ?_)
            · skip
              have hnone := hdr.f (by simpa using hc7)
              rw [← hD.strip hn0, hD.cur_at hn] at hnone
              have hres := hla2.1 _ (hD.bad hn hh hnone)
              refine t_seq ?_
              refine t_qdraw mo (by kernel_rfl) (fun _ _ _ _ _ h => h) ?_
              refine s_q rfl rfl rfl (q_move rfl rfl) ?_
              refine s_q rfl rfl rfl (q_move rfl rfl) ?_
              refine s_q rfl rfl rfl ((by first | exact q_indexAddrVN rfl Tryd.underlying23 ti28 rfl rfl (by omega) | exact q_indexAddrN rfl Tryd.underlying23 ti28 rfl rfl (Sl.shape ‹_› (by simp)) (by omega) | exact q_indexAddrV rfl Tryd.underlying23 ti28 rfl rfl (by omega) | exact q_indexAddr rfl Tryd.underlying23 ti28 rfl rfl (Sl.shape ‹_› (by simp)) (by omega))) ?_
              refine s_q rfl rfl rfl (q_fieldAddr rfl Tryd.underlying28 rfl rfl ti3 rfl rfl) ?_
              refine s_q rfl rfl rfl ((by first | exact q_load_row rfl Tryd.underlying3 rfl rfl (by rfl) | exact q_load_vecF rfl Tryd.underlying3 rfl rfl (vec_at (fo := 0) (f := tokC) (d := tok0) (fun _ => rfl) (show n < cur.length by omega) rfl) | exact q_load_vecF rfl Tryd.underlying3 rfl rfl (vec_at (fo := 0) (f := tokC) (d := tok0) (fun _ => rfl) (show n - 1 < cur.length by omega) rfl) | exact q_load_vecF rfl Tryd.underlying3 rfl rfl (vec_at (fo := 1) (f := tokC) (d := tok0) (fun _ => rfl) (show n < cur.length by omega) rfl) | exact q_load_vecF rfl Tryd.underlying3 rfl rfl (vec_at (fo := 1) (f := tokC) (d := tok0) (fun _ => rfl) (show n - 1 < cur.length by omega) rfl) | exact q_load_vecF rfl Tryd.underlying3 rfl rfl (vec_at (fo := 2) (f := tokC) (d := tok0) (fun _ => rfl) (show n < cur.length by omega) rfl))) ?_
              refine s_q rfl rfl rfl (q_assign rfl rfl) ?_
              refine s_q rfl rfl rfl (q_assign rfl rfl) ?_
              refine s_q rfl rfl rfl (q_assign rfl rfl) ?_
              refine s_q rfl rfl rfl (q_assign rfl rfl) ?_
              refine s_done ?_
              refine n_then ?_
              refine t_ret ?_
              refine n_ret_then ?_
              refine n_ret_block ?_
              refine n_ret_then ?_
              refine n_ret_then ?_
              refine n_ret_block ?_
              refine n_ret_then ?_
              refine n_ret4 rfl rfl rfl rfl rfl (fun w' hw => ?_)
              -- leaf 3
              exact ⟨_, rfl, I, _, ⟨Le.refl _, rfl, (.slice none 0 0), (by rw [hres, hD.cur_at hn]; rfl), (by rw [hres]; exact sl_nil (fun _ h => by cases h))⟩, subC_st hw⟩
            · skip
              obtain ⟨kk, hdx, hi9⟩ := hdr.t (by simpa using hc7)
              rw [← hD.strip hn0, hD.cur_at hn] at hdx
              refine t_skip ?_
              refine n_then ?_
              refine t_region ?_
              refine l_q rfl rfl rfl (q_move rfl rfl) ?_
              refine l_q rfl rfl rfl (q_move rfl rfl) ?_
              refine l_q rfl rfl rfl (q_move rfl rfl) ?_
              refine l_q rfl rfl rfl (q_move rfl rfl) ?_
              refine l_q rfl rfl rfl (q_move rfl rfl) ?_
              refine l_q rfl rfl rfl (q_move rfl rfl) ?_
              refine l_q rfl rfl rfl ((by first | exact q_indexAddrVN rfl Tryd.underlying23 ti28 rfl rfl (by omega) | exact q_indexAddrN rfl Tryd.underlying23 ti28 rfl rfl (Sl.shape ‹_› (by simp)) (by omega) | exact q_indexAddrV rfl Tryd.underlying23 ti28 rfl rfl (by omega) | exact q_indexAddr rfl Tryd.underlying23 ti28 rfl rfl (Sl.shape ‹_› (by simp)) (by omega))) ?_
              refine l_q rfl rfl rfl (q_fieldAddr rfl Tryd.underlying28 rfl rfl ti9 rfl rfl) ?_
              refine l_e0 rfl rfl (e_storeT tok0 ({ nth cur n tok0 with doc := dd }) rfl ti9 rfl rfl (by first | exact ⟨rfl, rfl⟩ | assumption) (fun _ => rfl) (by first | omega | (rw [List.length_set]; omega)) rfl rfl) ?_
              rintro _ _ _ ⟨rfl, rfl⟩
              have hcl2 : (cur.set n ({ nth cur n tok0 with doc := dd })).length = l.length := by rw [List.length_set]; exact hcl
              refine l_q rfl rfl rfl ((by first | exact q_indexAddrVN rfl Tryd.underlying23 ti28 rfl rfl (by omega) | exact q_indexAddrN rfl Tryd.underlying23 ti28 rfl rfl (Sl.shape ‹_› (by simp)) (by omega) | exact q_indexAddrV rfl Tryd.underlying23 ti28 rfl rfl (by omega) | exact q_indexAddr rfl Tryd.underlying23 ti28 rfl rfl (Sl.shape ‹_› (by simp)) (by omega))) ?_
              refine l_q rfl rfl rfl (q_fieldAddr rfl Tryd.underlying28 rfl rfl ti4 rfl rfl) ?_
              refine l_e0 rfl rfl (e_storeT tok0 ({ nth cur n tok0 with doc := dd, raw := anyOf (nth cur n tok0).text quoteSet }) rfl ti4 rfl rfl (by first | exact ⟨rfl, rfl⟩ | assumption) (fun _ => rfl) (by first | omega | (rw [List.length_set]; omega)) rfl (by rw [nth_set_eq (by omega)]; rfl)) ?_
              rintro _ _ _ ⟨rfl, rfl⟩
              refine l_nil ?_
              refine n_block ?_
              refine n_then ?_
              refine t_region ?_
              refine l_q rfl rfl rfl (q_add64 rfl rfl rfl (by omega)) ?_
              refine l_q rfl rfl rfl (q_move rfl rfl) ?_
              refine l_nil ?_
              refine n_roundE ((n + 1, (cur.set n ({ nth cur n tok0 with doc := dd })).set n ({ nth cur n tok0 with doc := dd, raw := anyOf (nth cur n tok0).text quoteSet }), i117)) ?_ ?_ (sub_cons rfl sub_nil) (sub_cons rfl (sub_cons rfl (sub_cons rfl (sub_cons rfl (sub_cons rfl (sub_cons rfl (sub_cons rfl (sub_cons rfl sub_nil)))))))) (fun _ h => by try dsimp only; exact subC_st h)
              · try dsimp only
                refine ⟨?_, hi117⟩
                rw [List.set_set, hD.cur_at hn, hi9]
                exact hD.doc hn hh hdx
              · try dsimp only
                show l.length - (n + 1) < l.length - n
                omega
        · skip
          try simp at hc5
          have hn : ¬ n < l.length := by omega
          have hres := hla2.2 _ _ (hD.done hn)
          refine t_exit ?_
          refine n_exit_then ?_
          refine n_exit_then ?_
          refine n_exit_block ?_
          refine n_then ?_
          refine t_seq ?_
          refine t_freezeT (f := tokC) (l := cur) v (fun _ => rfl) (fun Jf hJf hvf => ?_)
          refine t_qdraw mo (by kernel_rfl) (fun _ _ _ _ _ h => h) ?_
          refine s_q rfl rfl rfl (q_move rfl rfl) ?_
          refine s_q rfl rfl rfl (q_move rfl rfl) ?_
          refine s_q rfl rfl rfl (q_nilCheck rfl rfl) ?_
          refine s_q rfl rfl rfl (q_fieldAddr rfl Tryd.underlying51 rfl rfl ti3 rfl rfl) ?_
          refine s_q rfl rfl rfl ((by first | exact q_load_row rfl Tryd.underlying3 rfl rfl (by rfl) | exact q_load_vecF rfl Tryd.underlying3 rfl rfl (vec_at (fo := 0) (f := tokC) (d := tok0) (fun _ => rfl) (show n < cur.length by omega) rfl) | exact q_load_vecF rfl Tryd.underlying3 rfl rfl (vec_at (fo := 0) (f := tokC) (d := tok0) (fun _ => rfl) (show n - 1 < cur.length by omega) rfl) | exact q_load_vecF rfl Tryd.underlying3 rfl rfl (vec_at (fo := 1) (f := tokC) (d := tok0) (fun _ => rfl) (show n < cur.length by omega) rfl) | exact q_load_vecF rfl Tryd.underlying3 rfl rfl (vec_at (fo := 1) (f := tokC) (d := tok0) (fun _ => rfl) (show n - 1 < cur.length by omega) rfl) | exact q_load_vecF rfl Tryd.underlying3 rfl rfl (vec_at (fo := 2) (f := tokC) (d := tok0) (fun _ => rfl) (show n < cur.length by omega) rfl))) ?_
          refine s_q rfl rfl rfl (q_assign rfl rfl) ?_
          refine s_q rfl rfl rfl (q_assign rfl rfl) ?_
          refine s_q rfl rfl rfl (q_assign rfl rfl) ?_
          refine s_q rfl rfl rfl (q_assign rfl rfl) ?_
          refine s_done ?_
          refine n_then ?_
          refine t_ret ?_
          refine n_ret4 rfl rfl rfl rfl rfl (fun w' hw => ?_)
          -- leaf 4
          exact ⟨_, rfl, Jf, _, ⟨hJf, rfl, v, (by rw [hres]; rfl), (by rw [hres]; exact hvf)⟩, subC_st hw⟩
end Go.Tri
