/-
  A text without a piece.
-/
import Derived.Test.YtlhjbemcapnmjaaPA5
namespace Go.Tri
open Go.Proofs Go.RowKit
def pcsVs (n : Nat) (g : Bool) : List (List Value) := (List.range (n + 1)).map fun i => [.int .i64 ((if g then n - i else i : Nat) : Int)]
theorem pcsVs_len (n : Nat) (g : Bool) : (pcsVs n g).length = n + 1 := by simp [pcsVs]
theorem pcsVs_at {n i : Nat} {g : Bool} (h : i < n + 1) : (pcsVs n g)[i]? = some [.int .i64 ((if g then n - i else i : Nat) : Int)] := by simp [pcsVs, h]
theorem pcsVs_inv {n i : Nat} {g : Bool} {vs : List Value} (h : (pcsVs n g)[i]? = some vs) : i < n + 1 ∧ vs = [.int .i64 ((if g then n - i else i : Nat) : Int)] := by
  have h1 := (List.getElem?_eq_some_iff.1 h).1
  rw [pcsVs_len] at h1
  rw [pcsVs_at h1] at h
  exact ⟨h1, (Option.some.inj h).symm⟩
theorem cutOk_no {p : List Ch} {s : List UInt8} {e lg : Bool} {nn m : Nat} (hm : m = cutLen s lg nn) (e1 : ((s.length : Int) - (m : Int)).toNat = s.length - m) (h0 : (e && Mt p (s.drop ((s.length : Int) - (m : Int)).toNat)) = false) (h1 : (!e && Mt p (s.take ((m : Int)).toNat)) = false) : cutOk p s e lg nn = false := by
  unfold cutOk
  rw [← hm]
  rw [e1] at h0
  cases e
  · simpa using h1
  · simpa using h0
theorem cut_t {p : List Ch} {s : List UInt8} {e lg : Bool} {nn m : Nat} (hm : m = cutLen s lg nn) (e1 : ((s.length : Int) - (m : Int)).toNat = s.length - m) (hn : nn ≤ s.length) (hno : ∀ j, j < nn → cutOk p s e lg j = false) (h0 : (e && Mt p (s.drop ((s.length : Int) - (m : Int)).toNat)) = true) : s.take ((s.length : Int) - (m : Int)).toNat = cutP p s e lg := by
  rw [Bool.and_eq_true, e1] at h0
  obtain ⟨rfl, h0⟩ := h0
  rw [cutP_hit hn hno (by unfold cutOk; rw [if_pos rfl, ← hm]; exact h0), cutRes, if_pos rfl, ← hm, e1]
theorem cut_f {p : List Ch} {s : List UInt8} {e lg : Bool} {nn m : Nat} (hm : m = cutLen s lg nn) (hn : nn ≤ s.length) (hno : ∀ j, j < nn → cutOk p s e lg j = false) (h0 : (!e && Mt p (s.take ((m : Int)).toNat)) = true) : s.drop ((m : Int)).toNat = cutP p s e lg := by
  rw [Bool.and_eq_true, Bool.not_eq_true'] at h0
  obtain ⟨rfl, h0⟩ := h0
  have h1 : Mt p (s.take m) = true := h0
  rw [cutP_hit hn hno (by unfold cutOk; rw [if_neg (by simp), ← hm]; exact h1), cutRes, if_neg (by simp), ← hm]
  rfl
set_option maxRecDepth 10000 in
theorem pieces_iter (n : Nat) (lg : Bool) (b1 b2 : Nat) (hn : n ≤ 4611686018427387904) : Iterates Try.prog 29 [.pointer (some ⟨b1, 0, none⟩), .pointer (some ⟨b2, 0, none⟩)] (pcsVs n lg) (fun I => CellI I b1 0 (.int .i64 (n : Int)) ∧ CellI I b2 0 (.bool lg)) := by
  intro γ Cd Cx G II lid hY w0 g00 F w hcd0 ⟨hb1, hb2⟩ hw0
  have hJ := Le.refl (II g00)
  refine enter Try.func29 rfl Try.ntmps29 rfl (hw0.self) ?_
  refine t_seq ?_
  refine t_region ?_
  refine l_q rfl rfl rfl ((by first | exact q_load_row rfl Try.underlying3 rfl rfl (by rfl) | exact q_load rfl Try.underlying3 rfl rfl (rd_imm (hb1.mono hJ)) | exact q_load rfl Try.underlying3 rfl rfl (rd_imm (hb2.mono hJ)))) ?_
  refine l_q rfl rfl rfl (q_add64 rfl rfl rfl (by omega)) ?_
  refine l_q rfl rfl rfl (q_move rfl rfl) ?_
  refine l_nil ?_
  refine n_then ?_
  refine t_block ?_
  refine t_loopE (ι := Nat × γ) (fun zz => zz.1 ≤ n + 1 ∧ Cd zz.1 zz.2 ∧ Le (II g00) (II zz.2)) (fun zz => n + 1 - zz.1) (fun zz => [(7, .int .i64 (zz.1 : Int))]) [(0, _), (1, _), (2, _), (6, _)] (fun zz => (II zz.2)) (fun zz => (F ++ G zz.2)) (0, g00) ?_ (sub_cons rfl sub_nil) (sub_cons rfl (sub_cons rfl (sub_cons rfl (sub_cons rfl sub_nil)))) (fun _ h => subC_st h) ?_
  · try dsimp only
    exact ⟨Nat.zero_le _, hcd0, Le.refl _⟩
  rintro ⟨i, g⟩ ⟨hi, hcd, hJ⟩
  try dsimp only at *
  refine t_seq ?_
  refine t_region ?_
  refine l_q rfl rfl rfl (q_lss rfl rfl rfl) ?_
  refine l_nil ?_
  refine n_then ?_
  refine t_seq ?_
  refine t_cond rfl (fun hc0 => ?_) (fun hc0 => ?_)
  · skip
    try simp at hc0
    refine t_skip ?_
    refine n_then ?_
    refine t_seq ?_
    refine t_block ?_
    refine t_seq ?_
    refine t_region ?_
    refine l_q rfl rfl rfl (q_move rfl rfl) ?_
    refine l_q rfl rfl rfl (q_assign rfl rfl) ?_
    refine l_nil ?_
    refine n_then ?_
    refine t_cutE (ι := Nat) (fun zz => zz = (if lg then n - i else i)) (fun zz => [(4, .int .i64 (zz : Int))]) [(7, _), (0, _), (1, _), (2, _), (6, _), (8, _)] (fun zz => (II g)) (fun zz => (F ++ G g)) (sub_cons rfl (sub_cons rfl (sub_cons rfl (sub_cons rfl (sub_cons rfl (sub_cons rfl sub_nil)))))) ?_ ?_
    · skip
      refine t_seq ?_
      refine t_region ?_
      refine l_q rfl rfl rfl ((by first | exact q_load_row rfl Try.underlying4 rfl rfl (by rfl) | exact q_load rfl Try.underlying4 rfl rfl (rd_imm (hb1.mono hJ)) | exact q_load rfl Try.underlying4 rfl rfl (rd_imm (hb2.mono hJ)))) ?_
      refine l_nil ?_
      refine n_then ?_
      refine t_cond rfl (fun hc1 => ?_) (fun hc1 => ?_)
      · skip
        refine t_region ?_
        refine l_q rfl rfl rfl ((by first | exact q_load_row rfl Try.underlying3 rfl rfl (by rfl) | exact q_load rfl Try.underlying3 rfl rfl (rd_imm (hb1.mono hJ)) | exact q_load rfl Try.underlying3 rfl rfl (rd_imm (hb2.mono hJ)))) ?_
        refine l_q rfl rfl rfl (q_move rfl rfl) ?_
        refine l_q rfl rfl rfl (q_sub64 rfl rfl rfl (by omega)) ?_
        refine l_q rfl rfl rfl (q_assign rfl rfl) ?_
        refine l_nil ?_
        refine n_cut (n - i) ?_ (sub_cons' rfl (by congr 1; omega) (sub_nil)) (sub_cons rfl (sub_cons rfl (sub_cons rfl (sub_cons rfl (sub_cons rfl (sub_cons rfl sub_nil)))))) (fun _ h => by try dsimp only; exact subC_st h)
        · try dsimp only
          rw [hc1, if_pos rfl]
      · skip
        refine t_skip ?_
        refine n_cut (i) ?_ (sub_cons rfl sub_nil) (sub_cons rfl (sub_cons rfl (sub_cons rfl (sub_cons rfl (sub_cons rfl (sub_cons rfl sub_nil)))))) (fun _ h => by try dsimp only; exact subC_st h)
        · try dsimp only
          rw [hc1, if_neg (by simp)]
    rintro m hm
    try dsimp only at *
    refine t_seq ?_
    refine t_region ?_
    refine l_q rfl rfl rfl (q_move rfl rfl) ?_
    refine l_q rfl rfl rfl (q_move rfl rfl) ?_
    refine l_yield (i := i) g (wanted_n rfl) rfl rfl rfl rfl rfl hY (hm ▸ pcsVs_at (by omega)) hcd rfl (fun g hcd hle => ?_) (fun g hcx hle => ?_)
    · skip
      have hJ := hJ.trans hle
      refine l_q rfl rfl rfl (q_not rfl rfl) ?_
      refine l_nil ?_
      refine n_then ?_
      refine t_cond rfl (fun hc2 => ?_) (fun hc2 => ?_)
      · skip
        try simp at hc2
      · skip
        try simp at hc2
        refine t_skip ?_
        refine n_block ?_
        refine n_then ?_
        refine t_region ?_
        refine l_q rfl rfl rfl (q_add64 rfl rfl rfl (by omega)) ?_
        refine l_q rfl rfl rfl (q_move rfl rfl) ?_
        refine l_nil ?_
        refine n_roundE ((i + 1, g)) ?_ ?_ (sub_cons rfl sub_nil) (sub_cons rfl (sub_cons rfl (sub_cons rfl (sub_cons rfl sub_nil)))) (fun _ h => by try dsimp only; exact subC_st h)
        · try dsimp only
          exact ⟨by omega, hcd, hJ⟩
        · try dsimp only
          omega
    · skip
      have hJ := hJ.trans hle
      refine l_q rfl rfl rfl (q_not rfl rfl) ?_
      refine l_nil ?_
      refine n_then ?_
      refine t_cond rfl (fun hc3 => ?_) (fun hc3 => ?_)
      · skip
        try simp at hc3
        refine t_ret ?_
        refine n_ret_block ?_
        refine n_ret_then ?_
        refine n_ret_then ?_
        refine n_ret_block ?_
        refine n_ret0 rfl (fun w' hw => ?_)
        -- leaf 0
        exact ⟨_, rfl, g, .inr ⟨i + 1, by rw [pcsVs_len]; omega, hcx⟩, hJ, hw0.rebase (subC_st hw)⟩
      · skip
        try simp at hc3
  · skip
    try simp at hc0
    refine t_exit ?_
    refine n_exit_then ?_
    refine n_exit_then ?_
    refine n_exit_block ?_
    refine n_end0 rfl (fun w' hw => ?_)
    -- leaf 1
    exact ⟨_, rfl, g, .inl (by rw [pcsVs_len, ← show i = n + 1 by omega]; exact hcd), hJ, hw0.rebase (subC_st hw)⟩
set_option maxRecDepth 10000 in
theorem pieces_calls (n : Int) (lg : Bool) (I : Look) (F : List HA) (w0 w : World) (hw0 : St w0 I F w) : Calls Try.prog 21 [.int .i64 n, .bool lg].toArray w (fun e w' => ∃ v, e = .returned v ∧ ∃ I' H', (Le I I' ∧ F = H' ∧ ∃ b1 b2, v = .func (.func 29) #[] #[.pointer (some ⟨b1, 0, none⟩), .pointer (some ⟨b2, 0, none⟩)] ∧ CellI I' b1 0 (.int .i64 n) ∧ CellI I' b2 0 (.bool lg)) ∧ St w I' H' w') := by
  refine enter Try.func21 rfl Try.ntmps21 rfl (hw0.self) ?_
  refine t_seq ?_
  refine t_region ?_
  refine l_e rfl rfl rfl (e_box rfl rfl (by first | exact One.cells (by assumption) | rfl)) ?_
  rintro _ _ _ ⟨b2, rfl, rfl, rfl⟩
  refine l_e rfl rfl rfl (e_box rfl rfl (by first | exact One.cells (by assumption) | rfl)) ?_
  rintro _ _ _ ⟨b3, rfl, rfl, rfl⟩
  refine l_q rfl rfl rfl (q_assign rfl rfl) ?_
  refine l_nil ?_
  refine n_then ?_
  refine t_seq ?_
  refine t_freezeRow b2 (fun J hJ h1 => ?_)
  refine t_freezeRow b3 (fun J2 hJ2 h2 => ?_)
  refine t_region ?_
  refine l_q rfl rfl rfl (q_makeFunc rfl rfl rfl) ?_
  refine l_q rfl rfl rfl (q_assign rfl rfl) ?_
  refine l_nil ?_
  refine n_then ?_
  refine t_ret ?_
  refine n_ret1 rfl rfl (fun w' hw => ?_)
  -- leaf 0
  exact ⟨_, rfl, J2, _, ⟨hJ.trans hJ2, rfl, b2, b3, rfl, (h1 0 _ rfl).mono hJ2, h2 0 _ rfl⟩, hw⟩
set_option maxRecDepth 10000 in
theorem cut_pure (v : Value) (p : List Ch) (s : List UInt8) (e lg : Bool) (w : World) (hp : p.length ≤ 4611686018427387904) (hs : s.length ≤ 4611686018427387904) (hv : Sl (look w) 2 v (p.map chC)) : Pure Try.prog 10 [v, str s, .bool e, .bool lg] w (str (cutP p s e lg)) := by
  refine enterMN Try.func10 rfl Try.ntmps10 rfl (St.start w (look w) (Le.refl _)) ?_
  refine t_seq ?_
  refine t_region ?_
  refine l_e rfl rfl rfl (e_box rfl rfl (by first | exact One.cells (by assumption) | exact One.cells hv.one | rfl)) ?_
  rintro _ _ _ ⟨b4, rfl, rfl, rfl⟩
  refine l_e rfl rfl rfl (e_box rfl rfl (by first | exact One.cells (by assumption) | exact One.cells hv.one | rfl)) ?_
  rintro _ _ _ ⟨b5, rfl, rfl, rfl⟩
  refine l_e rfl rfl rfl (e_box rfl rfl (by first | exact One.cells (by assumption) | exact One.cells hv.one | rfl)) ?_
  rintro _ _ _ ⟨b6, rfl, rfl, rfl⟩
  refine l_e rfl rfl rfl (e_alloc rfl ti9 rfl) ?_
  rintro _ _ _ ⟨b8, rfl, rfl, rfl⟩
  refine l_nil ?_
  refine n_then ?_
  refine t_seq ?_
  refine t_seq ?_
  refine t_region ?_
  refine l_q rfl rfl rfl (q_load_row rfl Try.underlying9 rfl rfl (by rfl)) ?_
  refine l_q rfl rfl rfl (q_len_str rfl Try.underlying9 rfl) ?_
  refine l_q rfl rfl rfl (q_move rfl rfl) ?_
  refine l_e rfl rfl rfl (eff_call rfl rfl rfl Try.func21 (by kernel_rfl) rfl (fun w hw => pieces_calls _ lg _ _ _ w hw)) ?_
  rintro _ J0 _ ⟨hJ0, rfl, b1, b2, rfl, hb1, hb2⟩
  refine l_nil ?_
  refine n_then ?_
  refine t_block ?_
  refine t_range (γ := List UInt8) (pieces_iter s.length lg b1 b2 hs) rfl rfl Try.func29 (by kernel_rfl) rfl (fun nn zz => zz = [] ∧ ∀ j, j < nn → cutOk p s e lg j = false) (fun cc zz => (cc = .ret ∧ zz = cutP p s e lg)) [] (fun zz TT => (row b4 22 [v] :: row b5 9 [str s] :: row b6 4 [.bool e] :: row b8 9 [str zz] :: TT)) (fun _ _ => rfl) (fun zz => J0) [(0, _), (1, _), (2, _), (3, _), (4, _), (5, _), (6, _), (8, _), (13, _)] (sub_cons rfl (sub_cons rfl (sub_cons rfl (sub_cons rfl (sub_cons rfl (sub_cons rfl (sub_cons rfl (sub_cons rfl (sub_cons rfl sub_nil))))))))) [] ?_ ?_ ?_ ?_ rfl ?_ ?_ ?_ ?_
  · exact ⟨rfl, fun j hj => absurd hj (Nat.not_lt_zero j)⟩
  · exact ⟨hb1, hb2⟩
  · exact Le.refl _
  · exact fun _ h => subC_st h
  · intro vs hvs; obtain ⟨x, _, rfl⟩ := List.mem_map.1 hvs; rfl
  · intro bl ready busy done dfr nn vs gg w0r FF hi hinv hrs hbz
    obtain r := gg
    obtain ⟨rfl, hno⟩ := hinv
    try dsimp only at *
    obtain ⟨hnn, rfl⟩ := pcsVs_inv hi
    have hm0 := cutLen_le (s := s) (g := lg) (i := nn) (by omega)
    obtain ⟨m, hm⟩ : ∃ m, m = cutLen s lg nn := ⟨_, rfl⟩
    rw [show (if lg then s.length - nn else nn) = m from hm.symm]
    rw [← hm] at hm0
    have e1 : ((s.length : Int) - (m : Int)).toNat = s.length - m := by omega
    refine t_region ?_
    refine l_q rfl rfl rfl (q_assign rfl rfl) ?_
    refine l_nil ?_
    refine n_begin (by rfl) hrs ?_
    refine t_block ?_
    refine t_block ?_
    refine t_seq ?_
    refine t_qdraw mo (by kernel_rfl) (fun _ _ _ _ _ h => h) ?_
    refine s_q rfl rfl rfl (q_load_row rfl Try.underlying4 rfl rfl (by rfl)) ?_
    refine s_q rfl rfl rfl (q_move rfl rfl) ?_
    refine s_and2 8 1 17 26 25 _ _ rfl rfl rfl rfl rfl rfl (fun h26 => by
        try simp at h26
        refine s_g rfl rfl rfl rfl rfl rfl (q_load_row rfl Try.underlying22 rfl rfl (by rfl)) ?_
        refine s_g rfl rfl rfl rfl rfl rfl (q_load_row rfl Try.underlying9 rfl rfl (by rfl)) ?_
        refine s_g rfl rfl rfl rfl rfl rfl (q_load_row rfl Try.underlying9 rfl rfl (by rfl)) ?_
        refine s_g rfl rfl rfl rfl rfl rfl (q_len_str rfl Try.underlying9 rfl) ?_
        refine s_g rfl rfl rfl rfl rfl rfl (q_move rfl rfl) ?_
        refine s_g rfl rfl rfl rfl rfl rfl (q_sub64 rfl rfl rfl (by omega)) ?_
        refine s_g rfl rfl rfl rfl rfl rfl (q_slice_str_from rfl Try.underlying9 rfl rfl (by omega)) ?_
        refine s_g rfl rfl rfl rfl rfl rfl (quiet_call rfl rfl rfl Try.func12 (by kernel_rfl) rfl ((fun w hw => match_pure v p (s.drop ((s.length : Int) - (m : Int)).toNat) w hp (by simp; omega) (hv.mono (hJ0.trans (Le.of_st hw)))))) ?_
        exact s_val rfl
      ) (wanted_n rfl) rfl rfl rfl ?_
    refine s_q rfl rfl rfl (q_assign rfl rfl) ?_
    refine s_done ?_
    refine n_then ?_
    refine t_cond rfl (fun hc0 => ?_) (fun hc0 => ?_)
    · skip
      refine t_seq ?_
      refine t_region ?_
      refine l_q rfl rfl rfl (q_load_row rfl Try.underlying9 rfl rfl (by rfl)) ?_
      refine l_q rfl rfl rfl (q_load_row rfl Try.underlying9 rfl rfl (by rfl)) ?_
      refine l_q rfl rfl rfl (q_len_str rfl Try.underlying9 rfl) ?_
      refine l_q rfl rfl rfl (q_move rfl rfl) ?_
      refine l_q rfl rfl rfl (q_sub64 rfl rfl rfl (by omega)) ?_
      refine l_q rfl rfl rfl (q_slice_str_to rfl Try.underlying9 rfl rfl (by omega)) ?_
      refine l_e0 rfl rfl (e_storeS rfl ti9 rfl rfl (by first | exact ⟨rfl, rfl⟩ | assumption | exact hv.one) rfl (by first | (simp only [List.set_cons_succ, List.set_cons_zero]; rfl) | rfl)) ?_
      rintro _ _ _ ⟨rfl, rfl⟩
      refine l_nil ?_
      refine n_then ?_
      refine t_ret ?_
      refine n_ret_block ?_
      refine n_ret_block ?_
      refine n_rret (fun w' hw' => .inr ⟨rfl, .ret, ((s.take ((s.length : Int) - (m : Int)).toNat)), ?_, ?_, ?_⟩)
      · try dsimp only
        exact ⟨rfl, cut_t hm e1 (by omega) hno hc0⟩
      · exact Le.refl _
      · try dsimp only
        exact subC_st hw'
    · skip
      refine t_seq ?_
      refine t_qdraw mo (by kernel_rfl) (fun _ _ _ _ _ h => h) ?_
      refine s_q rfl rfl rfl (q_load_row rfl Try.underlying4 rfl rfl (by rfl)) ?_
      refine s_q rfl rfl rfl (q_not rfl rfl) ?_
      refine s_q rfl rfl rfl (q_move rfl rfl) ?_
      refine s_and2 5 2 36 42 41 _ _ rfl rfl rfl rfl rfl rfl (fun h42 => by
          try simp at h42
          refine s_g rfl rfl rfl rfl rfl rfl (q_load_row rfl Try.underlying22 rfl rfl (by rfl)) ?_
          refine s_g rfl rfl rfl rfl rfl rfl (q_load_row rfl Try.underlying9 rfl rfl (by rfl)) ?_
          refine s_g rfl rfl rfl rfl rfl rfl (q_move rfl rfl) ?_
          refine s_g rfl rfl rfl rfl rfl rfl (q_slice_str_to rfl Try.underlying9 rfl rfl (by omega)) ?_
          refine s_g rfl rfl rfl rfl rfl rfl (quiet_call rfl rfl rfl Try.func12 (by kernel_rfl) rfl ((fun w hw => match_pure v p (s.take (m : Int).toNat) w hp (by simp; omega) (hv.mono (hJ0.trans (Le.of_st hw)))))) ?_
          exact s_val rfl
        ) (wanted_n rfl) rfl rfl rfl ?_
      refine s_q rfl rfl rfl (q_assign rfl rfl) ?_
      refine s_done ?_
      refine n_then ?_
      refine t_cond rfl (fun hc1 => ?_) (fun hc1 => ?_)
      · skip
        refine t_seq ?_
        refine t_region ?_
        refine l_q rfl rfl rfl (q_load_row rfl Try.underlying9 rfl rfl (by rfl)) ?_
        refine l_q rfl rfl rfl (q_move rfl rfl) ?_
        refine l_q rfl rfl rfl (q_slice_str_from rfl Try.underlying9 rfl rfl (by omega)) ?_
        refine l_e0 rfl rfl (e_storeS rfl ti9 rfl rfl (by first | exact ⟨rfl, rfl⟩ | assumption | exact hv.one) rfl (by first | (simp only [List.set_cons_succ, List.set_cons_zero]; rfl) | rfl)) ?_
        rintro _ _ _ ⟨rfl, rfl⟩
        refine l_nil ?_
        refine n_then ?_
        refine t_ret ?_
        refine n_ret_block ?_
        refine n_ret_block ?_
        refine n_rret (fun w' hw' => .inr ⟨rfl, .ret, ((s.drop (m : Int).toNat)), ?_, ?_, ?_⟩)
        · try dsimp only
          exact ⟨rfl, cut_f hm (by omega) hno hc1⟩
        · exact Le.refl _
        · try dsimp only
          exact subC_st hw'
      · skip
        refine t_skip ?_
        refine n_block ?_
        refine n_block ?_
        refine n_rnext (fun w' hw' => .inl ⟨rfl, ([]), ?_, ?_, ?_⟩)
        · try dsimp only
          refine ⟨rfl, fun j hj => ?_⟩
          rcases Nat.lt_succ_iff_lt_or_eq.1 hj with h | rfl
          · exact hno j h
          · exact cutOk_no hm e1 hc0 hc1
        · exact Le.refl _
        · try dsimp only
          exact subC_st hw'
  · skip
    intro bd gg hinv hle
    obtain r := gg
    obtain ⟨rfl, hno⟩ := hinv
    try dsimp only at *
    refine n_block ?_
    refine n_then ?_
    refine t_seq ?_
    refine t_region ?_
    refine l_q rfl rfl rfl (q_load_row rfl Try.underlying9 rfl rfl (by rfl)) ?_
    refine l_e0 rfl rfl (e_storeS rfl ti9 rfl rfl (by first | exact ⟨rfl, rfl⟩ | assumption | exact hv.one) rfl (by first | (simp only [List.set_cons_succ, List.set_cons_zero]; rfl) | rfl)) ?_
    rintro _ _ _ ⟨rfl, rfl⟩
    refine l_nil ?_
    refine n_then ?_
    refine t_ret ?_
    refine n_np_ret ?_
    refine n_retGM (bs := [bd]) (.inl rfl) rfl (by exact res_cell rfl Try.underlying9 rfl (by first | exact rd_rowI rfl) (res_nil)) (fun w' hw => ?_)
    -- leaf 0
    refine ⟨?_, (hw.less hJ0).below⟩
    rw [cutP_none (fun j hj => hno j (by rw [pcsVs_len]; exact hj))]; rfl
  · skip
    intro bd cc gg hex hle
    obtain r := gg
    obtain ⟨rfl, rfl⟩ := hex
    try dsimp only at *
    refine t_ret ?_
    refine n_ret_block ?_
    refine n_ret_then ?_
    refine n_np_ret ?_
    refine n_retGM (bs := [bd]) (.inl rfl) rfl (by exact res_cell rfl Try.underlying9 rfl (by first | exact rd_rowI rfl) (res_nil)) (fun w' hw => ?_)
    -- leaf 1
    exact ⟨rfl, (hw.less hJ0).below⟩
end Go.Tri
