/-
  A reader: expressions.
-/
import Derived.Test.YtjdcefhllbfacaaDoorAA6
namespace Go.Tri
open Go.Proofs Go.RowKit
set_option maxRecDepth 10000 in
theorem sid_calls (m d : Nat) (hd : d ≤ 25) (hO : ReadC 58 [.int .i64 (d : Int)] (opdP (rdA m))) (k : Nat) (hk : k ≤ 10) (ihk : ∀ j, k = j + 1 → ReadC 48 [.int .i64 (((10 - k : Nat) : Int) + 1), .int .i64 (d : Int)] (sidP (rdA m) j)) (b : Nat) (lv : Value) (L : List Lx) (I : Look) (F : List HA) (w0 w : World) (hT : Tk L) (hG : EnvI I) (hsl : Sl I 3 lv ((L.drop 2).map lxC)) (hw0 : St w0 I (row b 62 (rdrC lv (nowL L) (thenL L) 0) :: F) w) : Calls Tryd.prog 48 [pAt b, .int .i64 ((10 - k : Nat) : Int), .int .i64 (d : Int)].toArray w (fun e w' => ∃ v, e = .returned v ∧ ∃ I' H', (Le I I' ∧ ∃ q lv' nw' th' e1, v = pAt q ∧ H' = row b 62 (rdrC lv' nw' th' e1) :: F ∧ PARes I' (sidP (rdA m) k L) q lv' nw' th' e1) ∧ St w I' H' w') := by
  refine enter Tryd.func48 rfl Tryd.ntmps48 rfl (hw0.self) ?_
  refine t_seq ?_
  refine t_region ?_
  refine l_q rfl rfl rfl (q_assign rfl rfl) ?_
  refine l_nil ?_
  refine n_then ?_
  refine t_seq ?_
  refine t_seq ?_
  refine t_region ?_
  refine l_q rfl rfl rfl (q_move rfl rfl) ?_
  refine l_q rfl rfl rfl (q_eql rfl rfl rfl) ?_
  refine l_nil ?_
  refine n_then ?_
  refine t_cond rfl (fun hc0 => ?_) (fun hc0 => ?_)
  · skip
    try simp at hc0
    have hk0 : k = 0 := by omega
    subst hk0
    refine t_seq ?_
    refine t_region ?_
    refine l_q rfl rfl rfl (q_move rfl rfl) ?_
    refine l_q rfl rfl rfl (q_move rfl rfl) ?_
    refine l_e rfl rfl rfl (eff_call rfl rfl rfl Tryd.func58 (by kernel_rfl) rfl (fun w hw => hO b lv L _ _ _ w hT hG hsl (picks_st1 (row b 62 (rdrC lv (nowL L) (thenL L) 0)) hw))) ?_
    rintro _ J13 _ ⟨hJ13, q13, lv13, nw13, th13, e13, rfl, rfl, hr13⟩
    refine l_q rfl rfl rfl (q_assign rfl rfl) ?_
    refine l_nil ?_
    refine n_then ?_
    refine t_ret ?_
    refine n_ret_then ?_
    refine n_ret1 rfl rfl (fun w' hw => ?_)
    -- leaf 0
    exact ⟨_, rfl, J13, _, ⟨hJ13, q13, lv13, nw13, th13, e13, rfl, rfl, hr13⟩, hw⟩
  · skip
    try simp at hc0
    obtain ⟨j, rfl⟩ : ∃ j, k = j + 1 := ⟨k - 1, by omega⟩
    have ihs := ihk j rfl
    refine t_skip ?_
    refine n_then ?_
    refine t_seq ?_
    refine t_region ?_
    refine l_q rfl rfl rfl (q_move rfl rfl) ?_
    refine l_q rfl rfl rfl (q_move rfl rfl) ?_
    refine l_q rfl rfl rfl (q_add64 rfl rfl rfl (by omega)) ?_
    refine l_q rfl rfl rfl (q_move rfl rfl) ?_
    refine l_e rfl rfl rfl (eff_call rfl rfl rfl Tryd.func48 (by kernel_rfl) rfl (fun w hw => ihs b lv L _ _ _ w hT hG hsl (picks_st1 (row b 62 (rdrC lv (nowL L) (thenL L) 0)) hw))) ?_
    rintro _ J18 _ ⟨hJ18, q18, lv18, nw18, th18, e18, rfl, rfl, hr18⟩
    refine l_q rfl rfl rfl (q_assign rfl rfl) ?_
    refine l_nil ?_
    refine n_then ?_
    refine t_seq ?_
    refine t_block ?_
    obtain ⟨x0, L0, g0, hst⟩ := sinv_start (m := m) (I := I) hJ18 hr18
    refine t_loopE (ι := Nat × Value × Lx × Lx × Nat × Look × Ex × List Lx × Nat) (fun zz => SInv m j I (sidP (rdA m) (j + 1) L) zz.1 zz.2.1 zz.2.2.1 zz.2.2.2.1 zz.2.2.2.2.1 zz.2.2.2.2.2.1 zz.2.2.2.2.2.2.1 zz.2.2.2.2.2.2.2.1 zz.2.2.2.2.2.2.2.2) (fun zz => (if zz.2.2.2.2.1 = 0 then zz.2.2.2.2.2.2.2.2 + 1 else 0)) (fun zz => [(7, pAt zz.1)]) [(0, _), (1, _), (2, _), (6, _), (10, _)] (fun zz => zz.2.2.2.2.2.1) (fun zz => (row b 62 (rdrC zz.2.1 zz.2.2.1 zz.2.2.2.1 zz.2.2.2.2.1) :: F)) (q18, lv18, nw18, th18, e18, J18, x0, L0, g0) ?_ (sub_cons rfl sub_nil) (sub_cons rfl (sub_cons rfl (sub_cons rfl (sub_cons rfl (sub_cons rfl sub_nil))))) (fun _ h => subC_st h) ?_
    · try dsimp only
      exact hst
    rintro ⟨q, lv, nw, th, e1, J, x, L1, g⟩ hinv
    try dsimp only at *
    obtain ⟨hIJ, hs0, hs1⟩ := id hinv
    refine t_seq ?_
    refine t_seq ?_
    refine t_qdraw mo (by kernel_rfl) (fun _ _ _ _ _ h => h) ?_
    refine s_q rfl rfl rfl (q_move rfl rfl) ?_
    refine s_q rfl rfl rfl (q_nilCheck rfl rfl) ?_
    refine s_q rfl rfl rfl (q_fieldAddr rfl Tryd.underlying62 rfl rfl ti25 rfl rfl) ?_
    refine s_q rfl rfl rfl (q_load_row rfl Tryd.underlying25 rfl rfl (by rfl)) ?_
    refine s_q rfl rfl rfl (q_eql rfl rfl rfl) ?_
    refine s_q rfl rfl rfl (q_move rfl rfl) ?_
    refine s_and2 6 5 24 31 30 _ _ rfl rfl rfl rfl rfl rfl (fun h31 => by
        try simp at h31
        refine s_g rfl rfl rfl rfl rfl rfl (q_move rfl rfl) ?_
        refine s_g rfl rfl rfl rfl rfl rfl (q_nilCheck rfl rfl) ?_
        refine s_g rfl rfl rfl rfl rfl rfl (q_fieldAddr rfl Tryd.underlying62 rfl rfl ti57 rfl rfl) ?_
        refine s_g rfl rfl rfl rfl rfl rfl (q_fieldAddr rfl Tryd.underlying57 rfl rfl ti3 rfl rfl) ?_
        refine s_g rfl rfl rfl rfl rfl rfl (q_load_row rfl Tryd.underlying3 rfl rfl (by rfl)) ?_
        refine s_g rfl rfl rfl rfl rfl rfl (q_eql rfl rfl rfl) ?_
        exact s_val rfl
      ) (wanted_n rfl) rfl rfl rfl ?_
    refine s_q rfl rfl rfl (q_move rfl rfl) ?_
    refine s_and2 10 13 32 43 42 _ _ rfl rfl rfl rfl rfl rfl (fun h43 => by
        try simp at h43
        have he0 : e1 = 0 := by omega
        have hbn := (hs0 he0).2.2.1.now
        rw [← (hs0 he0).1] at hbn
        refine s_g rfl rfl rfl rfl rfl rfl (q_move rfl rfl) ?_
        refine s_g rfl rfl rfl rfl rfl rfl (quiet_call rfl rfl rfl Tryd.func59 (by kernel_rfl) rfl ((fun w _ => levels_pure (10 - (j + 1)) w (by omega)))) ?_
        refine s_g rfl rfl rfl rfl rfl rfl (q_move rfl rfl) ?_
        refine s_g rfl rfl rfl rfl rfl rfl (q_nilCheck rfl rfl) ?_
        refine s_g rfl rfl rfl rfl rfl rfl (q_fieldAddr rfl Tryd.underlying62 rfl rfl ti57 rfl rfl) ?_
        refine s_g rfl rfl rfl rfl rfl rfl (q_fieldAddr rfl Tryd.underlying57 rfl rfl ti9 rfl rfl) ?_
        refine s_g rfl rfl rfl rfl rfl rfl (q_load_row rfl Tryd.underlying9 rfl rfl (by rfl)) ?_
        refine s_g rfl rfl rfl rfl rfl rfl (q_cat rfl rfl rfl (by first | omega | (simp only [List.length_append, List.length_cons, List.length_nil, List.length_take, List.length_drop]; omega))) ?_
        refine s_g rfl rfl rfl rfl rfl rfl (q_cat rfl rfl rfl (by first | omega | (simp only [List.length_append, List.length_cons, List.length_nil, List.length_take, List.length_drop]; omega))) ?_
        refine s_g rfl rfl rfl rfl rfl rfl (quiet_call rfl rfl rfl Tryd.func35 (by kernel_rfl) rfl ((fun w hw => contains_pure (lvS (10 - (j + 1))) ([32] ++ nw.text ++ [32]) w (by have := lvS_len (10 - (j + 1)); omega) (hG.mono (hIJ.trans hw.le))))) ?_
        exact s_val rfl
      ) (wanted_n rfl) rfl rfl rfl ?_
    refine s_done ?_
    refine n_then ?_
    refine t_cond rfl (fun hc1 => ?_) (fun hc1 => ?_)
    · skip
      obtain ⟨he0, hbn⟩ := bin_on hc1
      subst he0
      obtain ⟨hnw, hth, hT1, hxq, hs1, hgl, htot⟩ := hs0 rfl
      subst hnw hth
      have hbb : binB (9 - j) L1 = true := by rw [show 9 - j = 10 - (j + 1) by omega]; exact hbn L1 rfl
      have hbl := hT1.now
      refine t_skip ?_
      refine n_then ?_
      refine t_block ?_
      refine t_seq ?_
      refine t_region ?_
      refine l_q rfl rfl rfl (q_move rfl rfl) ?_
      refine l_q rfl rfl rfl (q_nilCheck rfl rfl) ?_
      refine l_q rfl rfl rfl (q_fieldAddr rfl Tryd.underlying62 rfl rfl ti57 rfl rfl) ?_
      refine l_q rfl rfl rfl (q_fieldAddr rfl Tryd.underlying57 rfl rfl ti9 rfl rfl) ?_
      refine l_q rfl rfl rfl (q_load_row rfl Tryd.underlying9 rfl rfl (by rfl)) ?_
      refine l_q rfl rfl rfl (q_assign rfl rfl) ?_
      refine l_nil ?_
      refine n_then ?_
      refine t_seq ?_
      refine t_region ?_
      refine l_q rfl rfl rfl (q_move rfl rfl) ?_
      refine l_e rfl rfl rfl (eff_call rfl rfl rfl Tryd.func17 (by kernel_rfl) rfl (fun w hw => step_L b lv L1 0 _ _ _ w hT1 hs1 (picks_st1 (row b 62 (rdrC lv (nowL L1) (thenL L1) 0)) hw))) ?_
      rintro _ _ _ ⟨rfl, rfl, lv50, rfl, hs50⟩
      refine l_nil ?_
      refine n_then ?_
      refine t_region ?_
      refine l_q rfl rfl rfl (q_move rfl rfl) ?_
      refine l_q rfl rfl rfl (q_move rfl rfl) ?_
      refine l_q rfl rfl rfl (q_move rfl rfl) ?_
      refine l_q rfl rfl rfl (q_move rfl rfl) ?_
      refine l_q rfl rfl rfl (q_add64 rfl rfl rfl (by omega)) ?_
      refine l_q rfl rfl rfl (q_move rfl rfl) ?_
      refine l_e rfl rfl rfl (eff_call rfl rfl rfl Tryd.func48 (by kernel_rfl) rfl (fun w hw => ihs b lv50 (stepL L1) _ _ _ w hT1.step (hG.mono hIJ) hs50 (picks_st1 (row b 62 (rdrC lv50 (nowL (stepL L1)) (thenL (stepL L1)) 0)) hw))) ?_
      rintro _ J57 _ ⟨hJ57, q57, lv57, nw57, th57, e57, rfl, rfl, hr57⟩
      refine l_e rfl rfl rfl (e_buildSliceN (vs := [_, _]) (css := [[pAt q], [pAt q57]]) rfl Tryd.underlying50 ti40 rfl rfl rfl rfl (rfl) (by simp [pcC, chC])) ?_
      rintro _ _ _ ⟨b58, rfl, rfl, rfl⟩
      refine l_q rfl rfl rfl (q_build (pl := [(_, _), (_, _), (_, _), (_, _)]) (cs := (exC (nowL L1).text [] 0 (.slice (some ⟨b58, 0, none⟩) 2 2)).toArray) rfl Tryd.underlying52 ti52 ⟨rfl, ⟨_, _, ti9⟩, rfl, ⟨_, _, ti9⟩, rfl, ⟨_, _, ti2⟩, rfl, ⟨_, _, ti50⟩, trivial⟩ rfl rfl) ?_
      refine l_e rfl rfl rfl (e_box rfl rfl rfl) ?_
      rintro _ _ _ ⟨b60, rfl, rfl, rfl⟩
      refine l_freezeRow b58 (fun Ja hJa hka => ?_)
      refine l_freezeRow b60 (fun Jb hJb hkb => ?_)
      refine l_q rfl rfl rfl (q_assign rfl rfl) ?_
      refine l_nil ?_
      refine n_block ?_
      obtain ⟨x2, L2, hnx⟩ := sinv_next hinv hbb hJ57 hr57 (hJa.trans hJb) (RowI.mono hka hJb) hkb
      refine n_roundE ((b60, lv57, nw57, th57, e57, Jb, x2, L2, g - 1)) ?_ ?_ (sub_cons rfl sub_nil) (sub_cons rfl (sub_cons rfl (sub_cons rfl (sub_cons rfl (sub_cons rfl sub_nil))))) (fun _ h => by try dsimp only; exact subC_st h)
      · try dsimp only
        exact hnx
      · try dsimp only
        have := hT1.pos
        show (if e57 = 0 then g - 1 + 1 else 0) < (if (0 : Nat) = 0 then g + 1 else 0)
        rw [if_pos rfl]
        split <;> omega
    · skip
      have hend := sinv_end hinv (fun he => by rw [show 9 - j = 10 - (j + 1) by omega]; exact bin_off hc1 he L1 (hs0 he).1)
      refine t_exit ?_
      refine n_exit_then ?_
      refine n_exit_then ?_
      refine n_exit_block ?_
      refine n_then ?_
      refine t_seq ?_
      refine t_region ?_
      refine l_q rfl rfl rfl (q_move rfl rfl) ?_
      refine l_q rfl rfl rfl (q_assign rfl rfl) ?_
      refine l_nil ?_
      refine n_then ?_
      refine t_ret ?_
      refine n_ret1 rfl rfl (fun w' hw => ?_)
      -- leaf 1
      exact ⟨_, rfl, J, _, ⟨hIJ, q, lv, nw, th, e1, rfl, rfl, hend⟩, hw⟩
theorem sid_all (m d : Nat) (hd : d ≤ 25) (hO : ReadC 58 [.int .i64 (d : Int)] (opdP (rdA m))) : ∀ k, k ≤ 10 → ReadC 48 [.int .i64 ((10 - k : Nat) : Int), .int .i64 (d : Int)] (sidP (rdA m) k)
  | 0, hk => fun b lv L I F w0 w hT hG hsl hw0 => sid_calls m d hd hO 0 hk (fun j h => by cases h) b lv L I F w0 w hT hG hsl hw0
  | k + 1, hk => fun b lv L I F w0 w hT hG hsl hw0 => sid_calls m d hd hO (k + 1) hk (fun j h => by
      cases h
      have := sid_all m d hd hO k (by omega)
      rw [show ((10 - k : Nat) : Int) = ((10 - (k + 1) : Nat) : Int) + 1 by omega] at this
      exact this) b lv L I F w0 w hT hG hsl hw0
theorem qn_on {e1 : Nat} {b : Bool} (h : (decide ((e1 : Int) ≠ 0) || !b) = true) : e1 = 0 → b = false := fun he => by
  subst he
  cases b with
  | false => rfl
  | true => cases h
theorem qn_off {e1 : Nat} {b : Bool} (h : (decide ((e1 : Int) ≠ 0) || !b) = false) : e1 = 0 ∧ b = true := by
  simp only [Bool.or_eq_false_iff, decide_eq_false_iff_not, Bool.not_eq_false'] at h
  exact ⟨by have := h.1; omega, h.2⟩
theorem cho_one {R : RdA} {L : List Lx} {J : Look} {q : Nat} {lv : Value} {nw th : Lx} {e : Nat} (hr : PARes J (sidP R 10 L) q lv nw th e) (h : e = 0 → (decide (nw.what = 3) && decide (nw.text = [63])) = false) : PARes J (choP R L) q lv nw th e := by
  unfold choP
  cases hs : sidP R 10 L with
  | bad e2 => rw [hs] at hr; exact hr
  | ok x L1 =>
    rw [hs] at hr
    have h2 := h hr.1
    rw [hr.2.1] at h2
    simp only
    rw [if_neg (by rw [show isL L1 [63] = false from h2]; simp)]
    exact hr
theorem cho_no {R : RdA} {L L1 L2 : List Lx} {x y : Ex} (h1 : sidP R 10 L = .ok x L1) (hq : isL L1 [63] = true) (h2 : R.asg (stepL L1) = .ok y L2) (hc : isL L2 [58] = false) : choP R L = .bad 60 := by
  unfold choP
  rw [h1]; simp only
  rw [if_pos hq, h2]; simp only
  rw [if_neg (by rw [hc]; simp)]
theorem cho_E {R : RdA} {L L1 : List Lx} {x : Ex} {e : Nat} (h1 : sidP R 10 L = .ok x L1) (hq : isL L1 [63] = true) (h2 : R.asg (stepL L1) = .bad e) : choP R L = .bad e := by
  unfold choP
  rw [h1]; simp only
  rw [if_pos hq, h2]
theorem cho_res {R : RdA} {L L1 L2 : List Lx} {x y : Ex} {J K : Look} {q1 q2 q3 b1 b2 : Nat} {lv : Value} {nw th : Lx} {e : Nat} (h1 : sidP R 10 L = .ok x L1) (hq : isL L1 [63] = true) (h2 : R.asg (stepL L1) = .ok y L2) (hc : isL L2 [58] = true)
    (hr : PARes J (R.cho (stepL L2)) q3 lv nw th e) (hle : Le J K) (hx : ExAt K x q1) (hy : ExAt K y q2) (hk : RowI K b1 [pAt q1, pAt q2, pAt q3]) (hb : RowI K b2 (exC [63] [] 0 (.slice (some ⟨b1, 0, none⟩) 3 3))) : PARes K (choP R L) b2 lv nw th e := by
  unfold choP
  rw [h1]; simp only
  rw [if_pos hq, h2]; simp only
  rw [if_pos hc]
  cases h3 : R.cho (stepL L2) with
  | bad e2 => rw [h3] at hr; exact hr
  | ok z L3 =>
    rw [h3] at hr
    obtain ⟨a1, a2, a3, a4, a5, a6⟩ := hr
    exact ⟨a1, a2, a3, a4, ⟨_, q1, q2, q3, hb, sl_row1 hk (Nat.le_refl _), hx, hy, a5.mono hle⟩, a6.mono hle⟩
theorem asg_res {R : RdA} {L : List Lx} {J K : Look} {q b1 b2 : Nat} {lv : Value} {nw th : Lx} {e : Nat} (hT : Tk L) (ha : asgB L = true) (hr : PARes J (R.asg (stepL (stepL L))) q lv nw th e) (hle : Le J K) (hk : RowI K b1 [pAt q]) (hb : RowI K b2 (exC (thenL L).text (nowL L).text 0 (.slice (some ⟨b1, 0, none⟩) 1 1))) : PARes K (asgP R L) b2 lv nw th e := by
  unfold asgP
  rw [if_pos ha]
  cases h : R.asg (stepL (stepL L)) with
  | bad e2 => rw [h] at hr; exact hr
  | ok x L1 =>
    rw [h] at hr
    obtain ⟨a1, a2, a3, a4, a5, a6⟩ := hr
    exact ⟨a1, a2, a3, a4, ⟨asg_op hT ha, _, q, hb, sl_row1 hk (Nat.le_refl _), a5.mono hle⟩, a6.mono hle⟩
theorem asg_else {R : RdA} {L : List Lx} (h : asgB L = false) : asgP R L = choP R L := by
  unfold asgP
  rw [if_neg (by rw [h]; simp)]
set_option maxRecDepth 10000 in
theorem cho_calls (n d : Nat) (hn : 25 - d = n) (hd : d ≤ 25) (hR : ∀ m, n = m + 1 → LevOk ((d : Int) + 1) (rdA m)) (hS : ∀ m, n = m + 1 → ReadC 48 [.int .i64 0, .int .i64 (d : Int)] (sidP (rdA m) 10)) (b : Nat) (lv : Value) (L : List Lx) (I : Look) (F : List HA) (w0 w : World) (hT : Tk L) (hG : EnvI I) (hsl : Sl I 3 lv ((L.drop 2).map lxC)) (hw0 : St w0 I (row b 62 (rdrC lv (nowL L) (thenL L) 0) :: F) w) : Calls Tryd.prog 36 [pAt b, .int .i64 (d : Int)].toArray w (fun e w' => ∃ v, e = .returned v ∧ ∃ I' H', (Le I I' ∧ ∃ q lv' nw' th' e1, v = pAt q ∧ H' = row b 62 (rdrC lv' nw' th' e1) :: F ∧ PARes I' ((rdA n).cho L) q lv' nw' th' e1) ∧ St w I' H' w') := by
  refine enter Tryd.func36 rfl Tryd.ntmps36 rfl (hw0.self) ?_
  refine t_seq ?_
  refine t_region ?_
  refine l_q rfl rfl rfl (q_assign rfl rfl) ?_
  refine l_nil ?_
  refine n_then ?_
  refine t_seq ?_
  refine t_seq ?_
  refine t_region ?_
  refine l_q rfl rfl rfl (q_move rfl rfl) ?_
  refine l_q rfl rfl rfl (q_gtr rfl rfl rfl) ?_
  refine l_nil ?_
  refine n_then ?_
  refine t_cond rfl (fun hc0 => ?_) (fun hc0 => ?_)
  · skip
    try simp at hc0
    have hn0 : n = 0 := by omega
    subst hn0
    refine t_seq ?_
    refine t_region ?_
    refine l_q rfl rfl rfl (q_move rfl rfl) ?_
    refine l_e rfl rfl rfl (eff_call rfl rfl rfl Tryd.func19 (by kernel_rfl) rfl (fun w hw => fail_calls b lv (nowL L) (thenL L) 52 _ _ _ w (picks_st1 (row b 62 (rdrC lv (nowL L) (thenL L) 0)) hw))) ?_
    rintro _ _ _ ⟨rfl, q10, rfl, rfl⟩
    refine l_q rfl rfl rfl (q_assign rfl rfl) ?_
    refine l_nil ?_
    refine n_then ?_
    refine t_ret ?_
    refine n_ret_then ?_
    refine n_ret1 rfl rfl (fun w' hw => ?_)
    -- leaf 0
    exact ⟨_, rfl, I, _, ⟨Le.refl _, _, lv, (nowL L), (thenL L), 52, rfl, rfl, pa_bad rfl (by decide)⟩, hw⟩
  · skip
    try simp at hc0
    obtain ⟨m, rfl⟩ : ∃ m, n = m + 1 := ⟨24 - d, by omega⟩
    obtain ⟨hA, hC, hO⟩ := hR m rfl
    have hSm := hS m rfl
    refine t_skip ?_
    refine n_then ?_
    refine t_seq ?_
    refine t_region ?_
    refine l_q rfl rfl rfl (q_move rfl rfl) ?_
    refine l_q rfl rfl rfl (q_move rfl rfl) ?_
    refine l_e rfl rfl rfl (eff_call rfl rfl rfl Tryd.func48 (by kernel_rfl) rfl (fun w hw => hSm b lv L _ _ _ w hT hG hsl (picks_st1 (row b 62 (rdrC lv (nowL L) (thenL L) 0)) hw))) ?_
    rintro _ J13 _ ⟨hJ13, q13, lv13, nw13, th13, e13, rfl, rfl, hr13⟩
    refine l_q rfl rfl rfl (q_assign rfl rfl) ?_
    refine l_nil ?_
    refine n_then ?_
    refine t_seq ?_
    refine t_seq ?_
    refine t_qreg ?_
    refine s_q rfl rfl rfl (q_move rfl rfl) ?_
    refine s_q rfl rfl rfl (q_nilCheck rfl rfl) ?_
    refine s_q rfl rfl rfl (q_fieldAddr rfl Tryd.underlying62 rfl rfl ti25 rfl rfl) ?_
    refine s_q rfl rfl rfl (q_load_row rfl Tryd.underlying25 rfl rfl (by rfl)) ?_
    refine s_q rfl rfl rfl (q_neq rfl rfl rfl) ?_
    refine s_q rfl rfl rfl (q_move rfl rfl) ?_
    refine s_or2 3 5 19 23 22 _ _ rfl rfl rfl rfl rfl rfl (fun h23 => by
        try simp at h23
        refine s_g rfl rfl rfl rfl rfl rfl (q_move rfl rfl) ?_
        refine s_g rfl rfl rfl rfl rfl rfl (quiet_call rfl rfl rfl Tryd.func49 (by kernel_rfl) rfl ((fun w hw => is_pure b lv13 nw13 th13 e13 [63] w (rowI_of hw)))) ?_
        refine s_g rfl rfl rfl rfl rfl rfl (q_not rfl rfl) ?_
        exact s_val rfl
      ) (wanted_n rfl) rfl rfl rfl ?_
    refine s_done ?_
    refine n_then ?_
    refine t_cond rfl (fun hc1 => ?_) (fun hc1 => ?_)
    · skip
      have h1 := qn_on hc1
      refine t_seq ?_
      refine t_region ?_
      refine l_q rfl rfl rfl (q_move rfl rfl) ?_
      refine l_q rfl rfl rfl (q_assign rfl rfl) ?_
      refine l_nil ?_
      refine n_then ?_
      refine t_ret ?_
      refine n_ret_then ?_
      refine n_ret1 rfl rfl (fun w' hw => ?_)
      -- leaf 1
      exact ⟨_, rfl, J13, _, ⟨hJ13, q13, lv13, nw13, th13, e13, rfl, rfl, cho_one hr13 h1⟩, hw⟩
    · skip
      obtain ⟨he, hq⟩ := qn_off hc1
      subst he
      obtain ⟨x1, L1, hr1, rfl, rfl, hT1, hx1, hsl1⟩ := hr13.t rfl
      have hq1 : isL L1 [63] = true := hq
      refine t_skip ?_
      refine n_then ?_
      refine t_seq ?_
      refine t_region ?_
      refine l_q rfl rfl rfl (q_move rfl rfl) ?_
      refine l_e rfl rfl rfl (eff_call rfl rfl rfl Tryd.func17 (by kernel_rfl) rfl (fun w hw => step_L b lv13 L1 0 _ _ _ w hT1 hsl1 (picks_st1 (row b 62 (rdrC lv13 (nowL L1) (thenL L1) 0)) hw))) ?_
      rintro _ _ _ ⟨rfl, rfl, lv26, rfl, hs26⟩
      refine l_nil ?_
      refine n_then ?_
      refine t_seq ?_
      refine t_region ?_
      refine l_q rfl rfl rfl (q_move rfl rfl) ?_
      refine l_q rfl rfl rfl (q_move rfl rfl) ?_
      refine l_q rfl rfl rfl (q_add64 rfl rfl rfl (by omega)) ?_
      refine l_e rfl rfl rfl (eff_call rfl rfl rfl Tryd.func18 (by kernel_rfl) rfl (fun w hw => hA b lv26 (stepL L1) _ _ _ w hT1.step (hG.mono hJ13) hs26 (picks_st1 (row b 62 (rdrC lv26 (nowL (stepL L1)) (thenL (stepL L1)) 0)) hw))) ?_
      rintro _ J30 _ ⟨hJ30, q30, lv30, nw30, th30, e30, rfl, rfl, hr30⟩
      refine l_q rfl rfl rfl (q_assign rfl rfl) ?_
      refine l_nil ?_
      refine n_then ?_
      refine t_seq ?_
      refine t_seq ?_
      refine t_qreg ?_
      refine s_q rfl rfl rfl (q_move rfl rfl) ?_
      refine s_q rfl rfl rfl (q_nilCheck rfl rfl) ?_
      refine s_q rfl rfl rfl (q_fieldAddr rfl Tryd.underlying62 rfl rfl ti25 rfl rfl) ?_
      refine s_q rfl rfl rfl (q_load_row rfl Tryd.underlying25 rfl rfl (by rfl)) ?_
      refine s_q rfl rfl rfl (q_eql rfl rfl rfl) ?_
      refine s_q rfl rfl rfl (q_move rfl rfl) ?_
      refine s_and2 3 5 36 40 39 _ _ rfl rfl rfl rfl rfl rfl (fun h40 => by
          try simp at h40
          refine s_g rfl rfl rfl rfl rfl rfl (q_move rfl rfl) ?_
          refine s_g rfl rfl rfl rfl rfl rfl (quiet_call rfl rfl rfl Tryd.func49 (by kernel_rfl) rfl ((fun w hw => is_pure b lv30 nw30 th30 e30 [58] w (rowI_of hw)))) ?_
          refine s_g rfl rfl rfl rfl rfl rfl (q_not rfl rfl) ?_
          exact s_val rfl
        ) (wanted_n rfl) rfl rfl rfl ?_
      refine s_done ?_
      refine n_then ?_
      refine t_cond rfl (fun hc2 => ?_) (fun hc2 => ?_)
      · skip
        obtain ⟨he, hcl⟩ := cl_on hc2
        subst he
        obtain ⟨x2, L2, hr2, rfl, rfl, hT2, hx2, hsl2⟩ := hr30.t rfl
        have hcl2 : isL L2 [58] = false := hcl
        refine t_seq ?_
        refine t_region ?_
        refine l_q rfl rfl rfl (q_move rfl rfl) ?_
        refine l_e rfl rfl rfl (eff_call rfl rfl rfl Tryd.func19 (by kernel_rfl) rfl (fun w hw => fail_calls b lv30 (nowL L2) (thenL L2) 60 _ _ _ w (picks_st1 (row b 62 (rdrC lv30 (nowL L2) (thenL L2) 0)) hw))) ?_
        rintro _ _ _ ⟨rfl, q42, rfl, rfl⟩
        refine l_q rfl rfl rfl (q_assign rfl rfl) ?_
        refine l_nil ?_
        refine n_then ?_
        refine t_ret ?_
        refine n_ret_then ?_
        refine n_ret1 rfl rfl (fun w' hw => ?_)
        -- leaf 2
        exact ⟨_, rfl, J30, _, ⟨(hJ13.trans hJ30), _, lv30, (nowL L2), (thenL L2), 60, rfl, rfl, pa_bad (cho_no hr1 hq1 hr2 hcl2) (by decide)⟩, hw⟩
      · skip
        have h3 := cl_off hc2
        refine t_skip ?_
        refine n_then ?_
        refine t_seq ?_
        refine t_seq ?_
        refine t_region ?_
        refine l_q rfl rfl rfl (q_move rfl rfl) ?_
        refine l_q rfl rfl rfl (q_nilCheck rfl rfl) ?_
        refine l_q rfl rfl rfl (q_fieldAddr rfl Tryd.underlying62 rfl rfl ti25 rfl rfl) ?_
        refine l_q rfl rfl rfl (q_load_row rfl Tryd.underlying25 rfl rfl (by rfl)) ?_
        refine l_q rfl rfl rfl (q_neq rfl rfl rfl) ?_
        refine l_nil ?_
        refine n_then ?_
        refine t_cond rfl (fun hc3 => ?_) (fun hc3 => ?_)
        · skip
          have he : e30 ≠ 0 := by have := of_decide_eq_true hc3; omega
          refine t_seq ?_
          refine t_region ?_
          refine l_q rfl rfl rfl (q_move rfl rfl) ?_
          refine l_q rfl rfl rfl (q_assign rfl rfl) ?_
          refine l_nil ?_
          refine n_then ?_
          refine t_ret ?_
          refine n_ret_then ?_
          refine n_ret1 rfl rfl (fun w' hw => ?_)
          -- leaf 3
          exact ⟨_, rfl, J30, _, ⟨(hJ13.trans hJ30), _, lv30, nw30, th30, e30, rfl, rfl, pa_bad (cho_E hr1 hq1 (hr30.f he)) he⟩, hw⟩
        · skip
          have he : e30 = 0 := by have := of_decide_eq_false hc3; omega
          subst he
          obtain ⟨x2, L2, hr2, rfl, rfl, hT2, hx2, hsl2⟩ := hr30.t rfl
          have hcl2 : isL L2 [58] = true := h3 rfl
          refine t_skip ?_
          refine n_then ?_
          refine t_seq ?_
          refine t_region ?_
          refine l_q rfl rfl rfl (q_move rfl rfl) ?_
          refine l_e rfl rfl rfl (eff_call rfl rfl rfl Tryd.func17 (by kernel_rfl) rfl (fun w hw => step_L b lv30 L2 0 _ _ _ w hT2 hsl2 (picks_st1 (row b 62 (rdrC lv30 (nowL L2) (thenL L2) 0)) hw))) ?_
          rintro _ _ _ ⟨rfl, rfl, lv50, rfl, hs50⟩
          refine l_nil ?_
          refine n_then ?_
          refine t_seq ?_
          refine t_region ?_
          refine l_q rfl rfl rfl (q_move rfl rfl) ?_
          refine l_q rfl rfl rfl (q_move rfl rfl) ?_
          refine l_q rfl rfl rfl (q_move rfl rfl) ?_
          refine l_q rfl rfl rfl (q_move rfl rfl) ?_
          refine l_q rfl rfl rfl (q_add64 rfl rfl rfl (by omega)) ?_
          refine l_e rfl rfl rfl (eff_call rfl rfl rfl Tryd.func36 (by kernel_rfl) rfl (fun w hw => hC b lv50 (stepL L2) _ _ _ w hT2.step (hG.mono (hJ13.trans hJ30)) hs50 (picks_st1 (row b 62 (rdrC lv50 (nowL (stepL L2)) (thenL (stepL L2)) 0)) hw))) ?_
          rintro _ J56 _ ⟨hJ56, q56, lv56, nw56, th56, e56, rfl, rfl, hr56⟩
          refine l_e rfl rfl rfl (e_buildSliceN (vs := [_, _, _]) (css := [[pAt q13], [pAt q30], [pAt q56]]) rfl Tryd.underlying50 ti40 rfl rfl rfl rfl (rfl) (by simp [pcC, chC])) ?_
          rintro _ _ _ ⟨b57, rfl, rfl, rfl⟩
          refine l_q rfl rfl rfl (q_build (pl := [(_, _), (_, _), (_, _), (_, _)]) (cs := (exC [63] [] 0 (.slice (some ⟨b57, 0, none⟩) 3 3)).toArray) rfl Tryd.underlying52 ti52 ⟨rfl, ⟨_, _, ti9⟩, rfl, ⟨_, _, ti9⟩, rfl, ⟨_, _, ti2⟩, rfl, ⟨_, _, ti50⟩, trivial⟩ rfl rfl) ?_
          refine l_e rfl rfl rfl (e_box rfl rfl rfl) ?_
          rintro _ _ _ ⟨b59, rfl, rfl, rfl⟩
          refine l_freezeRow b57 (fun Ja hJa hka => ?_)
          refine l_freezeRow b59 (fun Jb hJb hkb => ?_)
          refine l_q rfl rfl rfl (q_assign rfl rfl) ?_
          refine l_nil ?_
          refine n_then ?_
          refine t_ret ?_
          refine n_ret1 rfl rfl (fun w' hw => ?_)
          -- leaf 4
          exact ⟨_, rfl, Jb, _, ⟨(((hJ13.trans hJ30).trans hJ56).trans hJa).trans hJb, b59, lv56, nw56, th56, e56, rfl, rfl, cho_res hr1 hq1 hr2 hcl2 hr56 (hJa.trans hJb) (hx1.mono (((hJ30.trans hJ56).trans hJa).trans hJb)) (hx2.mono ((hJ56.trans hJa).trans hJb)) (RowI.mono hka hJb) hkb⟩, hw⟩
set_option maxRecDepth 10000 in
theorem asg_calls (n d : Nat) (hn : 25 - d = n) (hd : d ≤ 25) (hR : ∀ m, n = m + 1 → LevOk ((d : Int) + 1) (rdA m)) (hCd : ∀ m, n = m + 1 → ReadC 36 [.int .i64 (d : Int)] (choP (rdA m))) (b : Nat) (lv : Value) (L : List Lx) (I : Look) (F : List HA) (w0 w : World) (hT : Tk L) (hG : EnvI I) (hsl : Sl I 3 lv ((L.drop 2).map lxC)) (hw0 : St w0 I (row b 62 (rdrC lv (nowL L) (thenL L) 0) :: F) w) : Calls Tryd.prog 18 [pAt b, .int .i64 (d : Int)].toArray w (fun e w' => ∃ v, e = .returned v ∧ ∃ I' H', (Le I I' ∧ ∃ q lv' nw' th' e1, v = pAt q ∧ H' = row b 62 (rdrC lv' nw' th' e1) :: F ∧ PARes I' ((rdA n).asg L) q lv' nw' th' e1) ∧ St w I' H' w') := by
  refine enter Tryd.func18 rfl Tryd.ntmps18 rfl (hw0.self) ?_
  refine t_seq ?_
  refine t_region ?_
  refine l_q rfl rfl rfl (q_assign rfl rfl) ?_
  refine l_nil ?_
  refine n_then ?_
  refine t_seq ?_
  refine t_seq ?_
  refine t_region ?_
  refine l_q rfl rfl rfl (q_move rfl rfl) ?_
  refine l_q rfl rfl rfl (q_gtr rfl rfl rfl) ?_
  refine l_nil ?_
  refine n_then ?_
  refine t_cond rfl (fun hc0 => ?_) (fun hc0 => ?_)
  · skip
    try simp at hc0
    have hn0 : n = 0 := by omega
    subst hn0
    refine t_seq ?_
    refine t_region ?_
    refine l_q rfl rfl rfl (q_move rfl rfl) ?_
    refine l_e rfl rfl rfl (eff_call rfl rfl rfl Tryd.func19 (by kernel_rfl) rfl (fun w hw => fail_calls b lv (nowL L) (thenL L) 52 _ _ _ w (picks_st1 (row b 62 (rdrC lv (nowL L) (thenL L) 0)) hw))) ?_
    rintro _ _ _ ⟨rfl, q9, rfl, rfl⟩
    refine l_q rfl rfl rfl (q_assign rfl rfl) ?_
    refine l_nil ?_
    refine n_then ?_
    refine t_ret ?_
    refine n_ret_then ?_
    refine n_ret1 rfl rfl (fun w' hw => ?_)
    -- leaf 0
    exact ⟨_, rfl, I, _, ⟨Le.refl _, _, lv, (nowL L), (thenL L), 52, rfl, rfl, pa_bad rfl (by decide)⟩, hw⟩
  · skip
    try simp at hc0
    obtain ⟨m, rfl⟩ : ∃ m, n = m + 1 := ⟨24 - d, by omega⟩
    obtain ⟨hA, hC, hO⟩ := hR m rfl
    have hCm := hCd m rfl
    refine t_skip ?_
    refine n_then ?_
    refine t_seq ?_
    refine t_seq ?_
    refine t_qreg ?_
    refine s_q rfl rfl rfl (q_move rfl rfl) ?_
    refine s_q rfl rfl rfl (q_nilCheck rfl rfl) ?_
    refine s_q rfl rfl rfl (q_fieldAddr rfl Tryd.underlying62 rfl rfl ti57 rfl rfl) ?_
    refine s_q rfl rfl rfl (q_fieldAddr rfl Tryd.underlying57 rfl rfl ti3 rfl rfl) ?_
    refine s_q rfl rfl rfl (q_load_row rfl Tryd.underlying3 rfl rfl (by rfl)) ?_
    refine s_q rfl rfl rfl (q_eql rfl rfl rfl) ?_
    refine s_q rfl rfl rfl (q_move rfl rfl) ?_
    refine s_and2 6 6 16 23 22 _ _ rfl rfl rfl rfl rfl rfl (fun h23 => by
        try simp at h23
        refine s_g rfl rfl rfl rfl rfl rfl (q_move rfl rfl) ?_
        refine s_g rfl rfl rfl rfl rfl rfl (q_nilCheck rfl rfl) ?_
        refine s_g rfl rfl rfl rfl rfl rfl (q_fieldAddr rfl Tryd.underlying62 rfl rfl ti57 rfl rfl) ?_
        refine s_g rfl rfl rfl rfl rfl rfl (q_fieldAddr rfl Tryd.underlying57 rfl rfl ti3 rfl rfl) ?_
        refine s_g rfl rfl rfl rfl rfl rfl (q_load_row rfl Tryd.underlying3 rfl rfl (by rfl)) ?_
        refine s_g rfl rfl rfl rfl rfl rfl (q_eql rfl rfl rfl) ?_
        exact s_val rfl
      ) (wanted_n rfl) rfl rfl rfl ?_
    refine s_q rfl rfl rfl (q_move rfl rfl) ?_
    refine s_and2 8 14 24 33 32 _ _ rfl rfl rfl rfl rfl rfl (fun h33 => by
        try simp at h33
        have hbn := hT.then
        refine s_g rfl rfl rfl rfl rfl rfl (q_move rfl rfl) ?_
        refine s_g rfl rfl rfl rfl rfl rfl (q_nilCheck rfl rfl) ?_
        refine s_g rfl rfl rfl rfl rfl rfl (q_fieldAddr rfl Tryd.underlying62 rfl rfl ti57 rfl rfl) ?_
        refine s_g rfl rfl rfl rfl rfl rfl (q_fieldAddr rfl Tryd.underlying57 rfl rfl ti9 rfl rfl) ?_
        refine s_g rfl rfl rfl rfl rfl rfl (q_load_row rfl Tryd.underlying9 rfl rfl (by rfl)) ?_
        refine s_g rfl rfl rfl rfl rfl rfl (q_cat rfl rfl rfl (by first | omega | (simp only [List.length_append, List.length_cons, List.length_nil, List.length_take, List.length_drop]; omega))) ?_
        refine s_g rfl rfl rfl rfl rfl rfl (q_cat rfl rfl rfl (by first | omega | (simp only [List.length_append, List.length_cons, List.length_nil, List.length_take, List.length_drop]; omega))) ?_
        refine s_g rfl rfl rfl rfl rfl rfl (quiet_call rfl rfl rfl Tryd.func35 (by kernel_rfl) rfl ((fun w hw => contains_pure asgS ([32] ++ (thenL L).text ++ [32]) w (by decide) (hG.mono hw.le)))) ?_
        exact s_val rfl
      ) (wanted_n rfl) rfl rfl rfl ?_
    refine s_done ?_
    refine n_then ?_
    refine t_cond rfl (fun hc1 => ?_) (fun hc1 => ?_)
    · skip
      have ha : asgB L = true := asg_on hc1
      refine t_seq ?_
      refine t_draw [11] [] [] mo (by kernel_rfl) (fun _ _ _ _ _ h => h) ?_
      refine r_q1 0 (by kernel_rfl) rfl (Le.refl _) rfl rfl rfl (q_move rfl rfl) ?_
      refine r_q1 1 (by kernel_rfl) rfl (Le.refl _) rfl rfl rfl (q_nilCheck rfl rfl) ?_
      refine r_q1 2 (by kernel_rfl) rfl (Le.refl _) rfl rfl rfl (q_fieldAddr rfl Tryd.underlying62 rfl rfl ti57 rfl rfl) ?_
      refine r_q1 3 (by kernel_rfl) rfl (Le.refl _) rfl rfl rfl (q_fieldAddr rfl Tryd.underlying57 rfl rfl ti9 rfl rfl) ?_
      refine r_q1 4 (by kernel_rfl) rfl (Le.refl _) rfl rfl rfl (q_load_row rfl Tryd.underlying9 rfl rfl (by rfl)) ?_
      refine r_q1 5 (by kernel_rfl) rfl (Le.refl _) rfl rfl rfl (q_move rfl rfl) ?_
      refine r_q1 6 (by kernel_rfl) rfl (Le.refl _) rfl rfl rfl (q_nilCheck rfl rfl) ?_
      refine r_q1 7 (by kernel_rfl) rfl (Le.refl _) rfl rfl rfl (q_fieldAddr rfl Tryd.underlying62 rfl rfl ti57 rfl rfl) ?_
      refine r_q1 8 (by kernel_rfl) rfl (Le.refl _) rfl rfl rfl (q_fieldAddr rfl Tryd.underlying57 rfl rfl ti9 rfl rfl) ?_
      refine r_q1 9 (by kernel_rfl) rfl (Le.refl _) rfl rfl rfl (q_load_row rfl Tryd.underlying9 rfl rfl (by rfl)) ?_
      refine r_q1 10 (by kernel_rfl) rfl (Le.refl _) rfl rfl rfl (q_build (pl := [(_, _), (_, _), (_, _), (_, _)]) (cs := (exC (thenL L).text (nowL L).text 0 nilS).toArray) rfl Tryd.underlying52 ti52 ⟨rfl, ⟨_, _, ti9⟩, rfl, ⟨_, _, ti9⟩, rfl, ⟨_, _, ti2⟩, rfl, ⟨_, _, ti50⟩, trivial⟩ rfl rfl) ?_
      refine r_e 11 (by kernel_rfl) (by kernel_rfl) rfl (Le.refl _) rfl rfl rfl (e_box rfl rfl rfl) ?_
      rintro _ _ _ ⟨b45, rfl, rfl, rfl⟩
      refine ⟨Le.refl _, .inr SubC.sub, ?_⟩
      refine r_q0 12 (by kernel_rfl) rfl (Le.refl _) rfl rfl rfl (fun _ hI => q_assign rfl rfl) ?_
      refine r_end (by kernel_rfl) ?_
      refine n_then ?_
      refine t_seq ?_
      refine t_region ?_
      refine l_q rfl rfl rfl (q_move rfl rfl) ?_
      refine l_e rfl rfl rfl (eff_call rfl rfl rfl Tryd.func17 (by kernel_rfl) rfl (fun w hw => step_L b lv L 0 _ _ _ w hT hsl (picks_st1 (row b 62 (rdrC lv (nowL L) (thenL L) 0)) hw))) ?_
      rintro _ _ _ ⟨rfl, rfl, lv47, rfl, hs47⟩
      refine l_nil ?_
      refine n_then ?_
      refine t_seq ?_
      refine t_region ?_
      refine l_q rfl rfl rfl (q_move rfl rfl) ?_
      refine l_e rfl rfl rfl (eff_call rfl rfl rfl Tryd.func17 (by kernel_rfl) rfl (fun w hw => step_L b lv47 (stepL L) 0 _ _ _ w hT.step hs47 (picks_st1 (row b 62 (rdrC lv47 (nowL (stepL L)) (thenL (stepL L)) 0)) hw))) ?_
      rintro _ _ _ ⟨rfl, rfl, lv49, rfl, hs49⟩
      refine l_nil ?_
      refine n_then ?_
      refine t_seq ?_
      refine t_region ?_
      refine l_q rfl rfl rfl (q_move rfl rfl) ?_
      refine l_q rfl rfl rfl (q_move rfl rfl) ?_
      refine l_q rfl rfl rfl (q_move rfl rfl) ?_
      refine l_q rfl rfl rfl (q_add64 rfl rfl rfl (by omega)) ?_
      refine l_e rfl rfl rfl (eff_call rfl rfl rfl Tryd.func18 (by kernel_rfl) rfl (fun w hw => hA b lv49 (stepL (stepL L)) _ _ _ w hT.step.step hG hs49 (picks_st1 (row b 62 (rdrC lv49 (nowL (stepL (stepL L))) (thenL (stepL (stepL L))) 0)) hw))) ?_
      rintro _ J54 _ ⟨hJ54, q54, lv54, nw54, th54, e54, rfl, rfl, hr54⟩
      refine l_e rfl rfl rfl (e_buildSlice1 rfl Tryd.underlying50 ti40 rfl rfl rfl (by first | exact One.cells (by assumption) | exact One.cells ⟨rfl, rfl⟩ | rfl) rfl) ?_
      rintro _ _ _ ⟨b55, rfl, rfl, rfl⟩
      refine l_q rfl rfl rfl (q_nilCheck rfl rfl) ?_
      refine l_q rfl rfl rfl (q_fieldAddr rfl Tryd.underlying52 rfl rfl ti50 rfl rfl) ?_
      refine l_e0 rfl rfl (e_storeS rfl ti50 rfl rfl (by first | exact ⟨rfl, rfl⟩ | assumption | exact ⟨rfl, rfl⟩) rfl (by first | (simp only [List.set_cons_succ, List.set_cons_zero]; rfl) | rfl)) ?_
      rintro _ _ _ ⟨rfl, rfl⟩
      refine l_heap (H' := row b45 52 (exC (thenL L).text (nowL L).text 0 (.slice (some ⟨b55, 0, none⟩) 1 1)) :: _) ?_ (fun _ h => h)
      refine l_nil ?_
      refine n_then ?_
      refine t_seq ?_
      refine t_freezeRow b55 (fun Ja hJa hka => ?_)
      refine t_freezeRow b45 (fun Jb hJb hkb => ?_)
      refine t_region ?_
      refine l_q rfl rfl rfl (q_move rfl rfl) ?_
      refine l_q rfl rfl rfl (q_assign rfl rfl) ?_
      refine l_nil ?_
      refine n_then ?_
      refine t_ret ?_
      refine n_ret_then ?_
      refine n_ret1 rfl rfl (fun w' hw => ?_)
      -- leaf 1
      exact ⟨_, rfl, Jb, _, ⟨(hJ54.trans hJa).trans hJb, b45, lv54, nw54, th54, e54, rfl, rfl, asg_res hT ha hr54 (hJa.trans hJb) (RowI.mono hka hJb) hkb⟩, hw⟩
    · skip
      have ha : asgB L = false := asg_on hc1
      refine t_skip ?_
      refine n_then ?_
      refine t_seq ?_
      refine t_region ?_
      refine l_q rfl rfl rfl (q_move rfl rfl) ?_
      refine l_q rfl rfl rfl (q_move rfl rfl) ?_
      refine l_e rfl rfl rfl (eff_call rfl rfl rfl Tryd.func36 (by kernel_rfl) rfl (fun w hw => hCm b lv L _ _ _ w hT hG hsl (picks_st1 (row b 62 (rdrC lv (nowL L) (thenL L) 0)) hw))) ?_
      rintro _ J61 _ ⟨hJ61, q61, lv61, nw61, th61, e61, rfl, rfl, hr61⟩
      refine l_q rfl rfl rfl (q_assign rfl rfl) ?_
      refine l_nil ?_
      refine n_then ?_
      refine t_ret ?_
      refine n_ret1 rfl rfl (fun w' hw => ?_)
      -- leaf 2
      exact ⟨_, rfl, J61, _, ⟨hJ61, q61, lv61, nw61, th61, e61, rfl, rfl, by rw [show (rdA (m + 1)).asg L = asgP (rdA m) L from rfl, asg_else ha]; exact hr61⟩, hw⟩
theorem lev_all : ∀ (n d : Nat), 25 - d = n → d ≤ 25 → LevOk (d : Int) (rdA n) := by
  intro n
  induction n with
  | zero =>
    intro d hn hd
    exact ⟨fun b lv L I F w0 w hT hG hsl hw0 => asg_calls 0 d hn hd (fun m h => by cases h) (fun m h => by cases h) b lv L I F w0 w hT hG hsl hw0,
      fun b lv L I F w0 w hT hG hsl hw0 => cho_calls 0 d hn hd (fun m h => by cases h) (fun m h => by cases h) b lv L I F w0 w hT hG hsl hw0,
      fun b lv L I F w0 w hT hG hsl hw0 => opd_calls 0 d hn hd (fun m h => by cases h) b lv L I F w0 w hT hG hsl hw0⟩
  | succ n ih =>
    intro d hn hd
    have hR : ∀ m, n + 1 = m + 1 → LevOk ((d : Int) + 1) (rdA m) := fun m h => by
      cases h
      exact ih (d + 1) (by omega) (by omega)
    have hO : ReadC 58 [.int .i64 (d : Int)] (opdP (rdA n)) := fun b lv L I F w0 w hT hG hsl hw0 => opd_calls (n + 1) d hn hd hR b lv L I F w0 w hT hG hsl hw0
    have hS : ∀ m, n + 1 = m + 1 → ReadC 48 [.int .i64 0, .int .i64 (d : Int)] (sidP (rdA m) 10) := fun m h => by
      cases h
      exact sid_all n d hd hO 10 (Nat.le_refl _)
    have hC : ReadC 36 [.int .i64 (d : Int)] (choP (rdA n)) := fun b lv L I F w0 w hT hG hsl hw0 => cho_calls (n + 1) d hn hd hR hS b lv L I F w0 w hT hG hsl hw0
    exact ⟨fun b lv L I F w0 w hT hG hsl hw0 => asg_calls (n + 1) d hn hd hR (fun m h => by cases h; exact hC) b lv L I F w0 w hT hG hsl hw0, hC, hO⟩
end Go.Tri
