/-
  The tokens of a text.
-/
import Derived.Test.YtfnmioggkmkmcaaDoorLB1
import Derived.Test.YtfnmioggkmkmcaaDoorPLex10
import Derived.Test.YtfnmioggkmkmcaaDoorTriB12
namespace Go.Tri
open Go.Proofs Go.RowKit
/-- a token handed on with its error -/
def yC (x : Tok × Nat) : List Value := [.agg (tokC x.1).toArray, .int .i64 (x.2 : Int)]
theorem ys_last {α : Type} {l : List α} {n : Nat} {a : α} (h : l.drop n = [a]) : n < l.length ∧ n + 1 = l.length ∧ l[n]? = some a := by
  have h1 := congrArg List.length h
  rw [List.length_drop, List.length_singleton] at h1
  refine ⟨by omega, by omega, ?_⟩
  have h2 : (l.drop n)[0]? = some a := by rw [h]; rfl
  rwa [List.getElem?_drop] at h2
theorem ys_step {l r : List (Tok × Nat)} {ts : List Tok} {n m : Nat} (h : l.drop m = (ts.drop n).map (fun t => (t, 0)) ++ r) (hn : n < ts.length) : m < l.length ∧ l[m]? = some (nth ts n tok0, 0) ∧ l.drop (m + 1) = (ts.drop (n + 1)).map (fun t => (t, 0)) ++ r := by
  rw [drop_nth tok0 hn, List.map_cons, List.cons_append] at h
  have h1 := congrArg List.length h
  rw [List.length_drop, List.length_cons] at h1
  refine ⟨by omega, ?_, ?_⟩
  · have h2 : (l.drop m)[0]? = some (nth ts n tok0, 0) := by rw [h]; rfl
    rwa [List.getElem?_drop] at h2
  · rw [← List.drop_drop, h]; rfl
theorem ys_end {l r : List (Tok × Nat)} {ts : List Tok} {n m : Nat} (h : l.drop m = (ts.drop n).map (fun t => (t, 0)) ++ r) (hn : ¬ n < ts.length) : l.drop m = r := by
  rw [h, List.drop_of_length_le (by omega)]; rfl
theorem ys_all {α : Type} {l : List α} {m : Nat} (h : l.drop m = []) (hm : m ≤ l.length) : m = l.length := by
  have h1 := congrArg List.length h
  rw [List.length_drop, List.length_nil] at h1
  omega
/-- a line, its tokens held as a row of the caller's -/
theorem line_own (s : List UInt8) (at' : Int) (I : Look) (F : List HA) (w0 w : World) (hs : s.length ≤ 1000000000) (hG : EnvI I) (hw0 : St w0 I F w) : Calls Tryd.prog 10 [str s, .int .i64 at'].toArray w (fun e w' => ∃ v, e = .returned v ∧ ∃ I' H', (I = I' ∧ ∃ X L vl, H' = X :: F ∧ Holds I X 5 vl ((lineP s at').toks.map tokC) ∧ Sl L 5 vl ((lineP s at').toks.map tokC) ∧ v = .tuple #[vl, .int .i64 ((lineP s at').fin : Int), .int .i64 ((lineP s at').place : Int), .int .i64 ((lineP s at').err : Int)]) ∧ St w I' H' w') := by
  refine (line_calls s at' I F w0 w hs hG hw0).mono fun e w' hp => ?_
  obtain ⟨v, he, I', H', ⟨h1, h2, vl, h3, h4⟩, h5⟩ := hp
  subst h2
  obtain ⟨X, hX, hw⟩ := st_hold h5 h1 h4
  exact ⟨v, he, I, _, ⟨rfl, X, I', vl, rfl, hX, h4, h3⟩, hw⟩
set_option maxRecDepth 10000 in
theorem tokens_calls (s : List UInt8) (I : Look) (F : List HA) (w0 w : World) (hw0 : St w0 I F w) : Calls Tryd.prog 12 [str s].toArray w (fun e w' => ∃ v, e = .returned v ∧ ∃ I' H', (Le I I' ∧ F = H' ∧ ∃ b, v = .func (.func 22) #[] #[.pointer (some ⟨b, 0, none⟩)] ∧ CellI I' b 0 (str s)) ∧ St w I' H' w') := by
  refine enter Tryd.func12 rfl Tryd.ntmps12 rfl (hw0.self) ?_
  refine t_seq ?_
  refine t_region ?_
  refine l_e rfl rfl rfl (e_box rfl rfl (by first | exact One.cells (by assumption) | exact One.cells ⟨rfl, rfl⟩ | rfl)) ?_
  rintro _ _ _ ⟨b1, rfl, rfl, rfl⟩
  refine l_q rfl rfl rfl (q_assign rfl rfl) ?_
  refine l_nil ?_
  refine n_then ?_
  refine t_seq ?_
  refine t_freezeRow b1 (fun J hJ h1 => ?_)
  refine t_region ?_
  refine l_q rfl rfl rfl (q_makeFunc rfl rfl rfl) ?_
  refine l_q rfl rfl rfl (q_assign rfl rfl) ?_
  refine l_nil ?_
  refine n_then ?_
  refine t_ret ?_
  refine n_ret1 rfl rfl (fun w' hw => ?_)
  -- leaf 0
  exact ⟨_, rfl, J, _, ⟨hJ, rfl, b1, rfl, h1 0 _ rfl⟩, hw⟩
set_option maxRecDepth 10000 in
theorem tokens_iter (s : List UInt8) (b1 : Nat) (hs : s.length ≤ 1000000000) : Iterates Tryd.prog 22 [.pointer (some ⟨b1, 0, none⟩)] ((ysP s 0).map yC) (fun I => CellI I b1 0 (str s) ∧ EnvI I) := by
  intro γ Cd Cx G II lid hY w0 g00 F w hcd0 hpre hw0
  obtain ⟨hb1, hG0⟩ := hpre
  have hJ := Le.refl (II g00)
  refine enter Tryd.func22 rfl Tryd.ntmps22 rfl (hw0.self) ?_
  refine t_seq ?_
  refine t_region ?_
  refine l_q rfl rfl rfl (q_assign rfl rfl) ?_
  refine l_nil ?_
  refine n_then ?_
  refine t_block ?_
  refine t_loopE (ι := Nat × Nat × γ) (fun zz => zz.1 ≤ s.length ∧ zz.2.1 ≤ (ysP s 0).length ∧ Cd zz.2.1 zz.2.2 ∧ Le (II g00) (II zz.2.2) ∧ (ysP s 0).drop zz.2.1 = ysP s zz.1) (fun zz => s.length - zz.1) (fun zz => [(3, .int .i64 (zz.1 : Int))]) [(0, _), (1, _)] (fun zz => (II zz.2.2)) (fun zz => (F ++ G zz.2.2)) (0, 0, g00) ?_ (sub_cons rfl sub_nil) (sub_cons rfl (sub_cons rfl sub_nil)) (fun _ h => subC_st h) ?_
  · try dsimp only
    exact ⟨Nat.zero_le _, Nat.zero_le _, hcd0, Le.refl _, rfl⟩
  rintro ⟨i, nn, g⟩ ⟨hi, hn, hcd, hJ, hdr⟩
  try dsimp only at *
  refine t_block ?_
  refine t_seq ?_
  refine t_region ?_
  refine l_q rfl rfl rfl ((by first | exact q_load_row rfl Tryd.underlying9 rfl rfl (by rfl) | exact q_load rfl Tryd.underlying9 rfl rfl (rd_imm (hb1.mono hJ)) | exact q_load rfl Tryd.underlying9 rfl rfl (rd_imm (hb1.mono (hJ.trans hJ2))))) ?_
  refine l_q rfl rfl rfl (q_move rfl rfl) ?_
  refine l_e rfl rfl rfl (eff_call rfl rfl rfl Tryd.func10 (by kernel_rfl) rfl (fun w hw => line_own s i _ _ _ w (by omega) (hG0.mono hJ) hw)) ?_
  rintro _ _ _ ⟨rfl, X, L, vl, rfl, hX, hvl, rfl⟩
  obtain ⟨lv, hlv⟩ : ∃ lv, lv = lineP s i := ⟨_, rfl⟩
  rw [← hlv] at hX hvl ⊢
  refine l_q rfl rfl rfl (q_move rfl rfl) ?_
  refine l_q rfl rfl rfl (q_extract rfl rfl rfl) ?_
  refine l_q rfl rfl rfl (q_extract rfl rfl rfl) ?_
  refine l_q rfl rfl rfl (q_extract rfl rfl rfl) ?_
  refine l_q rfl rfl rfl (q_extract rfl rfl rfl) ?_
  refine l_q rfl rfl rfl (q_assign rfl rfl) ?_
  refine l_q rfl rfl rfl (q_assign rfl rfl) ?_
  refine l_q rfl rfl rfl (q_assign rfl rfl) ?_
  refine l_q rfl rfl rfl (q_assign rfl rfl) ?_
  refine l_nil ?_
  refine n_then ?_
  refine t_seq ?_
  refine t_seq ?_
  refine t_region ?_
  refine l_q rfl rfl rfl (q_move rfl rfl) ?_
  refine l_q rfl rfl rfl (q_neq rfl rfl rfl) ?_
  refine l_nil ?_
  refine n_then ?_
  refine t_cond rfl (fun hc0 => ?_) (fun hc0 => ?_)
  · skip
    try simp at hc0
    have he : lv.err ≠ 0 := by omega
    have hys := ysP_err (s := s) (i := i) (by rw [← hlv]; exact he)
    rw [← hlv] at hys
    have hyt := ys_last (hdr.trans hys)
    refine t_seq ?_
    refine t_region ?_
    refine l_q rfl rfl rfl (q_move rfl rfl) ?_
    refine l_q rfl rfl rfl (q_build (pl := [(_, _), (_, _), (_, _), (_, _), (_, _)]) (cs := (tokC tok0).toArray) rfl Tryd.underlying28 ti28 ⟨rfl, ⟨_, _, ti3⟩, rfl, ⟨_, _, ti9⟩, rfl, ⟨_, _, ti3⟩, rfl, ⟨_, _, ti9⟩, rfl, ⟨_, _, ti4⟩, trivial⟩ rfl rfl) ?_
    refine l_q rfl rfl rfl (q_move rfl rfl) ?_
    refine l_yield (i := nn) g (wanted_n rfl) rfl rfl rfl rfl rfl hY ((by rw [List.getElem?_map, hyt.2.2]; rfl)) hcd rfl (fun g hcd hle => ?_) (fun g hcx hle => ?_)
    · skip
      have hJ := hJ.trans hle
      refine l_nil ?_
      refine n_then ?_
      refine t_ret ?_
      refine n_ret_then ?_
      refine n_ret_block ?_
      refine n_ret_then ?_
      refine n_ret_block ?_
      refine n_ret0 rfl (fun w' hw => ?_)
      -- leaf 0
      exact ⟨_, rfl, g, .inl (by rw [List.length_map, ← hyt.2.1]; exact hcd), hJ, hw0.rebase (subC_st hw)⟩
    · skip
      have hJ := hJ.trans hle
      refine l_nil ?_
      refine n_then ?_
      refine t_ret ?_
      refine n_ret_then ?_
      refine n_ret_block ?_
      refine n_ret_then ?_
      refine n_ret_block ?_
      refine n_ret0 rfl (fun w' hw => ?_)
      -- leaf 1
      exact ⟨_, rfl, g, .inr ⟨nn + 1, (by rw [List.length_map]; omega), hcx⟩, hJ, hw0.rebase (subC_st hw)⟩
  · skip
    try simp at hc0
    have he : lv.err = 0 := by omega
    have hys := ysP_ok (s := s) hi (by rw [← hlv]; exact he)
    have hff := line_fin (s := s) hi (by rw [← hlv]; exact he)
    rw [← hlv] at hys hff
    obtain ⟨hf1, hf2, hf3, hf4⟩ := hff
    refine t_skip ?_
    refine n_then ?_
    refine t_seq ?_
    refine t_seq ?_
    refine t_region ?_
    refine l_q rfl rfl rfl (q_move rfl rfl) ?_
    refine l_q rfl rfl rfl ((by first | exact q_lenV rfl Tryd.underlying23 rfl | exact q_len rfl Tryd.underlying23 rfl (Sl.lenOf hvl (List.length_map _)))) ?_
    refine l_q rfl rfl rfl (q_move rfl rfl) ?_
    refine l_nil ?_
    refine n_then ?_
    refine t_block ?_
    refine t_loopE (ι := Nat × Nat × γ) (fun zz => zz.1 ≤ lv.toks.length ∧ zz.2.1 ≤ (ysP s 0).length ∧ Cd zz.2.1 zz.2.2 ∧ Le (II g) (II zz.2.2) ∧ (ysP s 0).drop zz.2.1 = (lv.toks.drop zz.1).map (fun t => (t, 0)) ++ (if lv.fin = s.length then [] else ysP s lv.fin)) (fun zz => lv.toks.length - zz.1) (fun zz => [(26, .int .i64 (zz.1 : Int))]) [(3, _), (0, _), (1, _), (4, _), (5, _), (7, _), (19, _), (24, _), (25, _)] (fun zz => (II zz.2.2)) (fun zz => (X :: (F ++ G zz.2.2))) (0, nn, g) ?_ (sub_cons rfl sub_nil) (sub_cons rfl (sub_cons rfl (sub_cons rfl (sub_cons rfl (sub_cons rfl (sub_cons rfl (sub_cons rfl (sub_cons rfl (sub_cons rfl sub_nil))))))))) (fun _ h => subC_st h) ?_
    · try dsimp only
      exact ⟨Nat.zero_le _, hn, hcd, Le.refl _, hdr.trans hys⟩
    rintro ⟨n, mm, gg⟩ ⟨hn2, hmm, hcd2, hJ2, hdr2⟩
    try dsimp only at *
    refine t_seq ?_
    refine t_region ?_
    refine l_q rfl rfl rfl (q_lss rfl rfl rfl) ?_
    refine l_nil ?_
    refine n_then ?_
    refine t_seq ?_
    refine t_cond rfl (fun hc1 => ?_) (fun hc1 => ?_)
    · skip
      try simp at hc1
      have hn1 : n < lv.toks.length := by omega
      obtain ⟨hy1, hy2, hy3⟩ := ys_step hdr2 hn1
      refine t_skip ?_
      refine n_then ?_
      refine t_seq ?_
      refine t_block ?_
      refine t_seq ?_
      refine t_region ?_
      refine l_q rfl rfl rfl ((by first | exact q_indexAddrVN rfl Tryd.underlying23 ti28 rfl rfl (by omega) | exact q_indexAddrN rfl Tryd.underlying23 ti28 rfl rfl (Sl.shape hvl (List.length_map _)) (by omega) | exact q_indexAddrV rfl Tryd.underlying23 ti28 rfl rfl (by omega) | exact q_indexAddr rfl Tryd.underlying23 ti28 rfl rfl (Sl.shape hvl (List.length_map _)) (by omega))) ?_
      refine l_q rfl rfl rfl ((by first | exact q_load_rowA rfl Tryd.underlying28 ti28 rfl rfl rfl | exact q_load_agg rfl Tryd.underlying28 ti28 rfl rfl (rds_holds (i := n) hX hJ2 (by simp) (map_getD lv.toks tokC tok0 hn1)))) ?_
      refine l_e rfl rfl rfl (e_alloc rfl ti28 rfl) ?_
      rintro _ _ _ ⟨b9, rfl, rfl, rfl⟩
      refine l_e0 rfl rfl ((by first | exact e_store_all rfl ti28 rfl rfl rfl (by first | exact chC_ones _ | exact pcC_ones _ | exact tokC_ones _ | simp [Value.oneCell', str, u8]) rfl | exact e_store_agg rfl ti28 rfl rfl rfl (by first | exact chC_ones _ | exact pcC_ones _ | exact tokC_ones _ | simp [Value.oneCell', str, u8]) rfl)) ?_
      rintro _ _ _ ⟨rfl, rfl⟩
      refine l_nil ?_
      refine n_then ?_
      refine t_seq ?_
      refine t_region ?_
      refine l_q rfl rfl rfl (q_move rfl rfl) ?_
      refine l_q rfl rfl rfl ((by first | exact q_load_rowA rfl Tryd.underlying28 ti28 rfl rfl rfl | exact q_load_agg rfl Tryd.underlying28 ti28 rfl rfl (rds_holds (i := n) hX hJ2 (by simp) (map_getD lv.toks tokC tok0 hn1)))) ?_
      refine l_yield (i := mm) gg (wanted_n rfl) rfl rfl rfl rfl rfl hY ((by rw [List.getElem?_map, hy2]; rfl)) hcd2 rfl (fun g hcd hle => ?_) (fun g hcx hle => ?_)
      · skip
        have hJ3 := hJ2.trans hle
        refine l_q rfl rfl rfl (q_not rfl rfl) ?_
        refine l_nil ?_
        refine n_then ?_
        refine t_cond rfl (fun hc2 => ?_) (fun hc2 => ?_)
        · skip
          try simp at hc2
        · skip
          try simp at hc2
          refine t_skip ?_
          refine n_block ?_
          refine n_then ?_
          refine t_region ?_
          refine l_q rfl rfl rfl (q_add64 rfl rfl rfl (by omega)) ?_
          refine l_q rfl rfl rfl (q_move rfl rfl) ?_
          refine l_nil ?_
          refine n_roundE ((n + 1, mm + 1, g)) ?_ ?_ (sub_cons rfl sub_nil) (sub_cons rfl (sub_cons rfl (sub_cons rfl (sub_cons rfl (sub_cons rfl (sub_cons rfl (sub_cons rfl (sub_cons rfl (sub_cons rfl sub_nil))))))))) (fun _ h => by try dsimp only; exact subC_st h)
          · try dsimp only
            exact ⟨by omega, by omega, hcd, hJ3, hy3⟩
          · try dsimp only
            show lv.toks.length - (n + 1) < lv.toks.length - n
            omega
      · skip
        have hJ3 := hJ2.trans hle
        refine l_q rfl rfl rfl (q_not rfl rfl) ?_
        refine l_nil ?_
        refine n_then ?_
        refine t_cond rfl (fun hc3 => ?_) (fun hc3 => ?_)
        · skip
          try simp at hc3
          refine t_ret ?_
          refine n_ret_block ?_
          refine n_ret_then ?_
          refine n_ret_then ?_
          refine n_ret_block ?_
          refine n_ret_then ?_
          refine n_ret_block ?_
          refine n_ret_then ?_
          refine n_ret_block ?_
          refine n_ret0 rfl (fun w' hw => ?_)
          -- leaf 2
          exact ⟨_, rfl, g, .inr ⟨mm + 1, (by rw [List.length_map]; omega), hcx⟩, hJ.trans hJ3, hw0.rebase (subC_st hw)⟩
        · skip
          try simp at hc3
    · skip
      try simp at hc1
      have hn1 : ¬ n < lv.toks.length := by omega
      refine t_exit ?_
      refine n_exit_then ?_
      refine n_exit_then ?_
      refine n_exit_block ?_
      refine n_then ?_
      refine t_seq ?_
      refine t_seq ?_
      refine t_region ?_
      refine l_q rfl rfl rfl (q_move rfl rfl) ?_
      refine l_q rfl rfl rfl ((by first | exact q_load_row rfl Tryd.underlying9 rfl rfl (by rfl) | exact q_load rfl Tryd.underlying9 rfl rfl (rd_imm (hb1.mono hJ)) | exact q_load rfl Tryd.underlying9 rfl rfl (rd_imm (hb1.mono (hJ.trans hJ2))))) ?_
      refine l_q rfl rfl rfl (q_len_str rfl Tryd.underlying9 rfl) ?_
      refine l_q rfl rfl rfl (q_eql rfl rfl rfl) ?_
      refine l_nil ?_
      refine n_then ?_
      refine t_cond rfl (fun hc4 => ?_) (fun hc4 => ?_)
      · skip
        try simp at hc4
        have hfe : lv.fin = s.length := by omega
        have hdr3 := ys_end hdr2 hn1
        rw [if_pos hfe] at hdr3
        have hml := ys_all hdr3 hmm
        refine t_ret ?_
        refine n_ret_then ?_
        refine n_ret_block ?_
        refine n_ret_then ?_
        refine n_ret_block ?_
        refine n_ret0 rfl (fun w' hw => ?_)
        -- leaf 3
        exact ⟨_, rfl, gg, .inl (by rw [List.length_map, ← hml]; exact hcd2), hJ.trans hJ2, hw0.rebase (subC_st hw)⟩
      · skip
        try simp at hc4
        have hfe : ¬ lv.fin = s.length := by omega
        refine t_skip ?_
        refine n_then ?_
        refine t_region ?_
        refine l_q rfl rfl rfl (q_move rfl rfl) ?_
        refine l_q rfl rfl rfl (q_assign rfl rfl) ?_
        refine l_nil ?_
        refine n_block ?_
        refine n_roundE ((lv.fin, mm, gg)) ?_ ?_ (sub_cons rfl sub_nil) (sub_cons rfl (sub_cons rfl sub_nil)) (fun _ h => by try dsimp only; exact subC_st h)
        · try dsimp only
          exact ⟨hf2, hmm, hcd2, hJ.trans hJ2, by rw [ys_end hdr2 hn1, if_neg hfe]⟩
        · try dsimp only
          show s.length - lv.fin < s.length - i
          omega
end Go.Tri
