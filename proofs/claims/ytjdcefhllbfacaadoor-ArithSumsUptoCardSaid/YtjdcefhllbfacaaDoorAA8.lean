/-
  A text as a tree; signs of two sides.
-/
import Derived.Test.YtjdcefhllbfacaaDoorAA7
import Derived.Test.YtjdcefhllbfacaaDoorPArN
namespace Go.Tri
open Go.Proofs Go.RowKit
/-- what reading tells -/
def RRel (J : Look) (r : RA) (q e : Nat) : Prop := match r with
  | .ok x => e = 0 ∧ ExAt J x q
  | .bad e2 => e = e2 ∧ e ≠ 0
theorem RRel.t {J : Look} {r : RA} {q e : Nat} (h : RRel J r q e) (he : e = 0) : ∃ x, r = .ok x ∧ ExAt J x q := by
  cases r with
  | ok x => exact ⟨x, rfl, h.2⟩
  | bad e2 => exact absurd he h.2
theorem RRel.f {J : Look} {r : RA} {q e : Nat} (h : RRel J r q e) (he : e ≠ 0) : r = .bad e := by
  cases r with
  | ok x => exact absurd h.1 he
  | bad e2 => rw [h.1]
theorem tk_init {L : List Lx} (h : Tk L) : nth (L.drop 1) 0 (nth L 0 lx0) = thenL L := by
  rw [thenL, nth_drop1]
  split
  · rename_i h1
    unfold nth
    rw [List.getD_eq_getElem?_getD, List.getElem?_eq_none (by omega)]; rfl
  · have := h.pos
    rw [nth_eq (show 0 + 1 < L.length by omega), nth_eq (show 1 < L.length by omega)]
theorem read_end {s : List UInt8} {x : Ex} {L : List Lx} (hb : Lib.trimS s blS ≠ []) (hr : (rdA 25).asg (lexL s) = .ok x L) : readA s = if (nowL L).what = 0 then .ok x else .bad 60 := by
  unfold readA
  rw [if_neg hb, hr]
theorem read_E {s : List UInt8} {e : Nat} (hb : Lib.trimS s blS ≠ []) (hr : (rdA 25).asg (lexL s) = .bad e) : readA s = .bad e := by
  unfold readA
  rw [if_neg hb, hr]
theorem en_on {e1 : Nat} {x : Lx} (h : (decide ((e1 : Int) = 0) && decide ((x.what : Int) ≠ 0)) = true) : e1 = 0 ∧ x.what ≠ 0 := by
  simp only [Bool.and_eq_true, decide_eq_true_eq] at h
  exact ⟨by omega, by have := h.2; omega⟩
theorem en_off {e1 : Nat} {x : Lx} (h : (decide ((e1 : Int) = 0) && decide ((x.what : Int) ≠ 0)) = false) : e1 = 0 → x.what = 0 := fun he => by
  subst he
  rw [Bool.and_eq_false_iff, decide_eq_false_iff_not, decide_eq_false_iff_not] at h
  rcases h with h | h
  · exact absurd rfl h
  · omega
theorem read_rel {J : Look} {s : List UInt8} {q : Nat} {lv : Value} {nw th : Lx} {e : Nat} (hb : Lib.trimS s blS ≠ []) (hr : PARes J ((rdA 25).asg (lexL s)) q lv nw th e) (h : e = 0 → nw.what = 0) : RRel J (readA s) q e := by
  by_cases he : e = 0
  · obtain ⟨x, L, h1, h2, _, _, h5, _⟩ := hr.t he
    rw [read_end hb h1, if_pos (by rw [← h2]; exact h he)]
    exact ⟨he, h5⟩
  · rw [read_E hb (hr.f he)]
    exact ⟨rfl, he⟩
set_option maxRecDepth 10000 in
theorem read_calls (s : List UInt8) (I : Look) (F : List HA) (w0 w : World) (hs : s.length ≤ 1000000) (hG : EnvI I) (hw0 : St w0 I F w) : Calls Tryd.prog 12 [str s].toArray w (fun e w' => ∃ v, e = .returned v ∧ ∃ I' H', (Le I I' ∧ F = H' ∧ ∃ q e1 : Nat, v = .tuple #[pAt q, .int .i64 (e1 : Int)] ∧ RRel I' (readA s) q e1) ∧ St w I' H' w') := by
  have hTk := lexL_tk hs
  refine enter Tryd.func12 rfl Tryd.ntmps12 rfl (hw0.self) ?_
  refine t_seq ?_
  refine t_region ?_
  refine l_q rfl rfl rfl (q_assign rfl rfl) ?_
  refine l_q rfl rfl rfl (q_assign rfl rfl) ?_
  refine l_nil ?_
  refine n_then ?_
  refine t_seq ?_
  refine t_seq ?_
  refine t_region ?_
  refine l_q rfl rfl rfl (q_move rfl rfl) ?_
  refine l_q rfl rfl rfl (quiet_call rfl rfl rfl Tryd.func14 (by kernel_rfl) rfl ((fun w _ => trimB_pure s blS w (by omega) (by decide) (by decide)))) ?_
  refine l_q rfl rfl rfl (q_eql_str rfl rfl rfl) ?_
  refine l_nil ?_
  refine n_then ?_
  refine t_cond rfl (fun hc0 => ?_) (fun hc0 => ?_)
  · skip
    have hb : Lib.trimS s blS = [] := of_decide_eq_true hc0
    refine t_seq ?_
    refine t_region ?_
    refine l_q rfl rfl rfl (q_build (pl := [(_, _), (_, _), (_, _), (_, _)]) (cs := (exC [] [] 0 nilS).toArray) rfl Tryd.underlying52 ti52 ⟨rfl, ⟨_, _, ti9⟩, rfl, ⟨_, _, ti9⟩, rfl, ⟨_, _, ti2⟩, rfl, ⟨_, _, ti50⟩, trivial⟩ rfl rfl) ?_
    refine l_e rfl rfl rfl (e_box rfl rfl rfl) ?_
    rintro _ _ _ ⟨b10, rfl, rfl, rfl⟩
    refine l_freezeRow b10 (fun J hJ hk => ?_)
    refine l_q rfl rfl rfl (q_assign rfl rfl) ?_
    refine l_q rfl rfl rfl (q_assign rfl rfl) ?_
    refine l_nil ?_
    refine n_then ?_
    refine t_ret ?_
    refine n_ret_then ?_
    refine n_ret2 rfl rfl rfl (fun w' hw => ?_)
    -- leaf 0
    refine ⟨_, rfl, J, _, ⟨hJ, rfl, b10, 0, rfl, ?_⟩, hw⟩
    unfold readA
    rw [if_pos hb]
    exact ⟨rfl, hk⟩
  · skip
    have hb : Lib.trimS s blS ≠ [] := of_decide_eq_false hc0
    refine t_skip ?_
    refine n_then ?_
    refine t_seq ?_
    refine t_region ?_
    refine l_q rfl rfl rfl (q_move rfl rfl) ?_
    refine l_e rfl rfl rfl (eff_call rfl rfl rfl Tryd.func16 (by kernel_rfl) rfl (fun w hw => lexemes_calls s _ _ _ w hw)) ?_
    rintro _ J12 _ ⟨hJ12, rfl, b12, rfl, hb12⟩
    refine l_e rfl rfl rfl (eff_call rfl rfl rfl Tryd.func15 (by kernel_rfl) rfl (fun w hw => collect_calls s b12 _ _ _ w hs (hG.mono hJ12) hb12 hw)) ?_
    rintro v13 J13 _ ⟨hJ13, rfl, hv13⟩
    refine l_q rfl rfl rfl (q_build (pl := [(_, _), (_, _), (_, _), (_, _)]) (cs := (rdrC v13 lx0 lx0 0).toArray) rfl Tryd.underlying62 ti62 ⟨rfl, ⟨_, _, ti54⟩, rfl, ⟨_, _, ti57⟩, rfl, ⟨_, _, ti57⟩, rfl, ⟨_, _, ti25⟩, trivial⟩ rfl (by obtain ⟨A, c, h⟩ := Sl.lenOf hv13 rfl; rw [h]; rfl)) ?_
    refine l_e rfl rfl rfl (e_box rfl rfl rfl) ?_
    rintro _ _ _ ⟨b15, rfl, rfl, rfl⟩
    refine l_q rfl rfl rfl (q_assign rfl rfl) ?_
    refine l_nil ?_
    refine n_then ?_
    refine t_seq ?_
    refine t_region ?_
    refine l_q rfl rfl rfl (q_move rfl rfl) ?_
    refine l_e rfl rfl rfl (eff_call rfl rfl rfl Tryd.func17 (by kernel_rfl) rfl (fun w hw => step_calls b15 v13 lx0 lx0 0 (lexL s) _ _ _ w hv13 (picks_st1 (row b15 62 (rdrC v13 lx0 lx0 0)) hw))) ?_
    rintro _ _ _ ⟨rfl, rfl, lv17, rfl, hs17⟩
    refine l_nil ?_
    refine n_then ?_
    refine t_seq ?_
    refine t_region ?_
    refine l_q rfl rfl rfl (q_move rfl rfl) ?_
    refine l_e rfl rfl rfl (eff_call rfl rfl rfl Tryd.func17 (by kernel_rfl) rfl (fun w hw => step_calls b15 lv17 lx0 (nth (lexL s) 0 lx0) 0 ((lexL s).drop 1) _ _ _ w hs17 (picks_st1 (row b15 62 (rdrC lv17 lx0 (nth (lexL s) 0 lx0) 0)) hw))) ?_
    rintro _ _ _ ⟨rfl, rfl, lv19, rfl, hs19⟩
    rw [tk_init hTk] at *
    rw [show nth (lexL s) 0 lx0 = nowL (lexL s) from rfl]
    rw [List.drop_drop] at hs19
    refine l_nil ?_
    refine n_then ?_
    refine t_seq ?_
    refine t_region ?_
    refine l_q rfl rfl rfl (q_move rfl rfl) ?_
    refine l_e rfl rfl rfl (eff_call rfl rfl rfl Tryd.func18 (by kernel_rfl) rfl (fun w hw => (lev_all 25 0 rfl (by decide)).1 b15 lv19 (lexL s) _ _ _ w hTk (hG.mono (hJ12.trans hJ13)) hs19 (picks_st1 (row b15 62 (rdrC lv19 (nowL (lexL s)) (thenL (lexL s)) 0)) hw))) ?_
    rintro _ J21 _ ⟨hJ21, q21, lv21, nw21, th21, e21, rfl, rfl, hr21⟩
    refine l_q rfl rfl rfl (q_assign rfl rfl) ?_
    refine l_nil ?_
    refine n_then ?_
    refine t_seq ?_
    refine t_seq ?_
    refine t_qreg ?_
    refine s_q rfl rfl rfl (q_move rfl rfl) ?_
    refine s_q rfl rfl rfl (q_nilCheck rfl rfl) ?_
    refine s_q rfl rfl rfl (q_fieldAddr rfl Tryd.underlying62 rfl rfl ti25 rfl rfl) ?_
    refine s_q rfl rfl rfl (q_load_row rfl Tryd.underlying25 rfl rfl (by rfl)) ?_
    refine s_q rfl rfl rfl (q_eql rfl rfl rfl) ?_
    refine s_q rfl rfl rfl (q_move rfl rfl) ?_
    refine s_and2 6 5 27 34 33 _ _ rfl rfl rfl rfl rfl rfl (fun h34 => by
        try simp at h34
        refine s_g rfl rfl rfl rfl rfl rfl (q_move rfl rfl) ?_
        refine s_g rfl rfl rfl rfl rfl rfl (q_nilCheck rfl rfl) ?_
        refine s_g rfl rfl rfl rfl rfl rfl (q_fieldAddr rfl Tryd.underlying62 rfl rfl ti57 rfl rfl) ?_
        refine s_g rfl rfl rfl rfl rfl rfl (q_fieldAddr rfl Tryd.underlying57 rfl rfl ti3 rfl rfl) ?_
        refine s_g rfl rfl rfl rfl rfl rfl (q_load_row rfl Tryd.underlying3 rfl rfl (by rfl)) ?_
        refine s_g rfl rfl rfl rfl rfl rfl (q_neq rfl rfl rfl) ?_
        exact s_val rfl
      ) (wanted_n rfl) rfl rfl rfl ?_
    refine s_done ?_
    refine n_then ?_
    refine t_cond rfl (fun hc1 => ?_) (fun hc1 => ?_)
    · skip
      obtain ⟨he, hnw⟩ := en_on hc1
      subst he
      obtain ⟨x2, L2, hr2, rfl, rfl, hT2, hx2, hsl2⟩ := hr21.t rfl
      have hrd := read_end hb hr2
      rw [if_neg hnw] at hrd
      refine t_region ?_
      refine l_q rfl rfl rfl (q_move rfl rfl) ?_
      refine l_e rfl rfl rfl (eff_call rfl rfl rfl Tryd.func19 (by kernel_rfl) rfl (fun w hw => fail_calls b15 lv21 (nowL L2) (thenL L2) 60 _ _ _ w (picks_st1 (row b15 62 (rdrC lv21 (nowL L2) (thenL L2) 0)) hw))) ?_
      rintro _ _ _ ⟨rfl, q36, rfl, rfl⟩
      refine l_nil ?_
      refine n_then ?_
      refine t_seq ?_
      refine t_qdraw mo (by kernel_rfl) (fun _ _ _ _ _ h => h) ?_
      refine s_q rfl rfl rfl (q_move rfl rfl) ?_
      refine s_q rfl rfl rfl (q_move rfl rfl) ?_
      refine s_q rfl rfl rfl (q_nilCheck rfl rfl) ?_
      refine s_q rfl rfl rfl (q_fieldAddr rfl Tryd.underlying62 rfl rfl ti25 rfl rfl) ?_
      refine s_q rfl rfl rfl (q_load_row rfl Tryd.underlying25 rfl rfl (by rfl)) ?_
      refine s_q rfl rfl rfl (q_assign rfl rfl) ?_
      refine s_q rfl rfl rfl (q_assign rfl rfl) ?_
      refine s_done ?_
      refine n_then ?_
      refine t_ret ?_
      refine n_ret2 rfl rfl rfl (fun w' hw => ?_)
      -- leaf 1
      refine ⟨_, rfl, J21, _, ⟨(hJ12.trans hJ13).trans hJ21, rfl, q21, 60, rfl, ?_⟩, subC_st hw⟩
      rw [hrd]
      exact ⟨rfl, by decide⟩
    · skip
      have h3 := en_off hc1
      refine t_skip ?_
      refine n_then ?_
      refine t_seq ?_
      refine t_qdraw mo (by kernel_rfl) (fun _ _ _ _ _ h => h) ?_
      refine s_q rfl rfl rfl (q_move rfl rfl) ?_
      refine s_q rfl rfl rfl (q_move rfl rfl) ?_
      refine s_q rfl rfl rfl (q_nilCheck rfl rfl) ?_
      refine s_q rfl rfl rfl (q_fieldAddr rfl Tryd.underlying62 rfl rfl ti25 rfl rfl) ?_
      refine s_q rfl rfl rfl (q_load_row rfl Tryd.underlying25 rfl rfl (by rfl)) ?_
      refine s_q rfl rfl rfl (q_assign rfl rfl) ?_
      refine s_q rfl rfl rfl (q_assign rfl rfl) ?_
      refine s_done ?_
      refine n_then ?_
      refine t_ret ?_
      refine n_ret2 rfl rfl rfl (fun w' hw => ?_)
      -- leaf 2
      refine ⟨_, rfl, J21, _, ⟨(hJ12.trans hJ13).trans hJ21, rfl, q21, e21, rfl, ?_⟩, subC_st hw⟩
      exact read_rel hb hr21 h3
set_option maxRecDepth 10000 in
theorem truth_pure (c : Bool) (w : World) : Pure Tryd.prog 22 [.bool c] w (.int .i64 (trI c)) := by
  refine enter Tryd.func22 rfl Tryd.ntmps22 rfl (St.start w (look w) (Le.refl _)) ?_
  refine t_seq ?_
  refine t_region ?_
  refine l_q rfl rfl rfl (q_assign rfl rfl) ?_
  refine l_nil ?_
  refine n_then ?_
  refine t_seq ?_
  refine t_seq ?_
  refine t_region ?_
  refine l_q rfl rfl rfl (q_move rfl rfl) ?_
  refine l_nil ?_
  refine n_then ?_
  refine t_cond rfl (fun hc0 => ?_) (fun hc0 => ?_)
  · skip
    refine t_seq ?_
    refine t_region ?_
    refine l_q rfl rfl rfl (q_assign rfl rfl) ?_
    refine l_nil ?_
    refine n_then ?_
    refine t_ret ?_
    refine n_ret_then ?_
    refine n_ret1 rfl rfl (fun w' hw => ?_)
    -- leaf 0
    refine ⟨?_, hw.below⟩
    rw [hc0]; rfl
  · skip
    refine t_skip ?_
    refine n_then ?_
    refine t_seq ?_
    refine t_region ?_
    refine l_q rfl rfl rfl (q_assign rfl rfl) ?_
    refine l_nil ?_
    refine n_then ?_
    refine t_ret ?_
    refine n_ret1 rfl rfl (fun w' hw => ?_)
    -- leaf 1
    refine ⟨?_, hw.below⟩
    rw [hc0]; rfl
set_option maxRecDepth 10000 in
theorem two_pure (op : List UInt8) (a b : Int) (w : World) : Pure Tryd.prog 23 [str op, .int .i64 a, .int .i64 b] w (.tuple #[.int .i64 (twoP op a b).1, .int .i64 ((twoP op a b).2 : Int)]) := by
  have h63 := (and63 b).1
  refine enter Tryd.func23 rfl Tryd.ntmps23 rfl (St.start w (look w) (Le.refl _)) ?_
  refine t_seq ?_
  refine t_region ?_
  refine l_q rfl rfl rfl (q_assign rfl rfl) ?_
  refine l_q rfl rfl rfl (q_assign rfl rfl) ?_
  refine l_nil ?_
  refine n_then ?_
  refine t_seq ?_
  refine t_seq ?_
  refine t_region ?_
  refine l_q rfl rfl rfl (q_move rfl rfl) ?_
  refine l_nil ?_
  refine n_then ?_
  refine t_block ?_
  refine t_seq ?_
  refine t_region ?_
  refine l_q rfl rfl rfl (q_eql_str rfl rfl rfl) ?_
  refine l_q rfl rfl rfl (q_assign rfl rfl) ?_
  refine l_nil ?_
  refine n_then ?_
  refine t_cond rfl (fun hc0 => ?_) (fun hc0 => ?_)
  · skip
    simp only [decide_eq_true_eq, decide_eq_false_iff_not] at hc0
    refine t_seq ?_
    refine t_region ?_
    refine l_q rfl rfl rfl (q_move rfl rfl) ?_
    refine l_q rfl rfl rfl (q_move rfl rfl) ?_
    refine l_q rfl rfl rfl (q_or rfl rfl rfl) ?_
    refine l_q rfl rfl rfl (q_assign rfl rfl) ?_
    refine l_q rfl rfl rfl (q_assign rfl rfl) ?_
    refine l_nil ?_
    refine n_then ?_
    refine t_ret ?_
    refine n_ret_block ?_
    refine n_ret_then ?_
    refine n_ret2 rfl rfl rfl (fun w' hw => ?_)
    -- leaf 0
    refine ⟨?_, hw.below⟩
    rw [twoP, if_pos hc0]
    rfl
  · skip
    simp only [decide_eq_true_eq, decide_eq_false_iff_not] at hc0
    refine t_seq ?_
    refine t_region ?_
    refine l_q rfl rfl rfl (q_eql_str rfl rfl rfl) ?_
    refine l_q rfl rfl rfl (q_assign rfl rfl) ?_
    refine l_nil ?_
    refine n_then ?_
    refine t_cond rfl (fun hc1 => ?_) (fun hc1 => ?_)
    · skip
      simp only [decide_eq_true_eq, decide_eq_false_iff_not] at hc1
      refine t_seq ?_
      refine t_region ?_
      refine l_q rfl rfl rfl (q_move rfl rfl) ?_
      refine l_q rfl rfl rfl (q_move rfl rfl) ?_
      refine l_q rfl rfl rfl (q_xor rfl rfl rfl) ?_
      refine l_q rfl rfl rfl (q_assign rfl rfl) ?_
      refine l_q rfl rfl rfl (q_assign rfl rfl) ?_
      refine l_nil ?_
      refine n_then ?_
      refine t_ret ?_
      refine n_ret_block ?_
      refine n_ret_then ?_
      refine n_ret2 rfl rfl rfl (fun w' hw => ?_)
      -- leaf 1
      refine ⟨?_, hw.below⟩
      rw [twoP, if_neg hc0, if_pos hc1]
      rfl
    · skip
      simp only [decide_eq_true_eq, decide_eq_false_iff_not] at hc1
      refine t_seq ?_
      refine t_region ?_
      refine l_q rfl rfl rfl (q_eql_str rfl rfl rfl) ?_
      refine l_q rfl rfl rfl (q_assign rfl rfl) ?_
      refine l_nil ?_
      refine n_then ?_
      refine t_cond rfl (fun hc2 => ?_) (fun hc2 => ?_)
      · skip
        simp only [decide_eq_true_eq, decide_eq_false_iff_not] at hc2
        refine t_seq ?_
        refine t_region ?_
        refine l_q rfl rfl rfl (q_move rfl rfl) ?_
        refine l_q rfl rfl rfl (q_move rfl rfl) ?_
        refine l_q rfl rfl rfl (q_and rfl rfl rfl) ?_
        refine l_q rfl rfl rfl (q_assign rfl rfl) ?_
        refine l_q rfl rfl rfl (q_assign rfl rfl) ?_
        refine l_nil ?_
        refine n_then ?_
        refine t_ret ?_
        refine n_ret_block ?_
        refine n_ret_then ?_
        refine n_ret2 rfl rfl rfl (fun w' hw => ?_)
        -- leaf 2
        refine ⟨?_, hw.below⟩
        rw [twoP, if_neg hc0, if_neg hc1, if_pos hc2]
        rfl
      · skip
        simp only [decide_eq_true_eq, decide_eq_false_iff_not] at hc2
        refine t_seq ?_
        refine t_region ?_
        refine l_q rfl rfl rfl (q_eql_str rfl rfl rfl) ?_
        refine l_q rfl rfl rfl (q_assign rfl rfl) ?_
        refine l_nil ?_
        refine n_then ?_
        refine t_cond rfl (fun hc3 => ?_) (fun hc3 => ?_)
        · skip
          simp only [decide_eq_true_eq, decide_eq_false_iff_not] at hc3
          refine t_seq ?_
          refine t_region ?_
          refine l_q rfl rfl rfl (q_move rfl rfl) ?_
          refine l_q rfl rfl rfl (q_move rfl rfl) ?_
          refine l_q rfl rfl rfl (q_and rfl rfl rfl) ?_
          refine l_q rfl rfl rfl (q_shl rfl rfl rfl h63) ?_
          refine l_q rfl rfl rfl (q_assign rfl rfl) ?_
          refine l_q rfl rfl rfl (q_assign rfl rfl) ?_
          refine l_nil ?_
          refine n_then ?_
          refine t_ret ?_
          refine n_ret_block ?_
          refine n_ret_then ?_
          refine n_ret2 rfl rfl rfl (fun w' hw => ?_)
          -- leaf 3
          refine ⟨?_, hw.below⟩
          rw [twoP, if_neg hc0, if_neg hc1, if_neg hc2, if_pos hc3]
          rfl
        · skip
          simp only [decide_eq_true_eq, decide_eq_false_iff_not] at hc3
          refine t_seq ?_
          refine t_region ?_
          refine l_q rfl rfl rfl (q_eql_str rfl rfl rfl) ?_
          refine l_q rfl rfl rfl (q_assign rfl rfl) ?_
          refine l_nil ?_
          refine n_then ?_
          refine t_cond rfl (fun hc4 => ?_) (fun hc4 => ?_)
          · skip
            simp only [decide_eq_true_eq, decide_eq_false_iff_not] at hc4
            refine t_seq ?_
            refine t_region ?_
            refine l_q rfl rfl rfl (q_move rfl rfl) ?_
            refine l_q rfl rfl rfl (q_move rfl rfl) ?_
            refine l_q rfl rfl rfl (q_and rfl rfl rfl) ?_
            refine l_q rfl rfl rfl (q_shr rfl rfl rfl h63) ?_
            refine l_q rfl rfl rfl (q_assign rfl rfl) ?_
            refine l_q rfl rfl rfl (q_assign rfl rfl) ?_
            refine l_nil ?_
            refine n_then ?_
            refine t_ret ?_
            refine n_ret_block ?_
            refine n_ret_then ?_
            refine n_ret2 rfl rfl rfl (fun w' hw => ?_)
            -- leaf 4
            refine ⟨?_, hw.below⟩
            rw [twoP, if_neg hc0, if_neg hc1, if_neg hc2, if_neg hc3, if_pos hc4]
            rfl
          · skip
            simp only [decide_eq_true_eq, decide_eq_false_iff_not] at hc4
            refine t_seq ?_
            refine t_region ?_
            refine l_q rfl rfl rfl (q_eql_str rfl rfl rfl) ?_
            refine l_q rfl rfl rfl (q_assign rfl rfl) ?_
            refine l_nil ?_
            refine n_then ?_
            refine t_cond rfl (fun hc5 => ?_) (fun hc5 => ?_)
            · skip
              simp only [decide_eq_true_eq, decide_eq_false_iff_not] at hc5
              refine t_seq ?_
              refine t_region ?_
              refine l_q rfl rfl rfl (q_move rfl rfl) ?_
              refine l_q rfl rfl rfl (q_move rfl rfl) ?_
              refine l_q rfl rfl rfl (q_add rfl rfl rfl) ?_
              refine l_q rfl rfl rfl (q_assign rfl rfl) ?_
              refine l_q rfl rfl rfl (q_assign rfl rfl) ?_
              refine l_nil ?_
              refine n_then ?_
              refine t_ret ?_
              refine n_ret_block ?_
              refine n_ret_then ?_
              refine n_ret2 rfl rfl rfl (fun w' hw => ?_)
              -- leaf 5
              refine ⟨?_, hw.below⟩
              rw [twoP, if_neg hc0, if_neg hc1, if_neg hc2, if_neg hc3, if_neg hc4, if_pos hc5]
              rfl
            · skip
              simp only [decide_eq_true_eq, decide_eq_false_iff_not] at hc5
              refine t_seq ?_
              refine t_region ?_
              refine l_q rfl rfl rfl (q_eql_str rfl rfl rfl) ?_
              refine l_q rfl rfl rfl (q_assign rfl rfl) ?_
              refine l_nil ?_
              refine n_then ?_
              refine t_cond rfl (fun hc6 => ?_) (fun hc6 => ?_)
              · skip
                simp only [decide_eq_true_eq, decide_eq_false_iff_not] at hc6
                refine t_seq ?_
                refine t_region ?_
                refine l_q rfl rfl rfl (q_move rfl rfl) ?_
                refine l_q rfl rfl rfl (q_move rfl rfl) ?_
                refine l_q rfl rfl rfl (q_sub rfl rfl rfl) ?_
                refine l_q rfl rfl rfl (q_assign rfl rfl) ?_
                refine l_q rfl rfl rfl (q_assign rfl rfl) ?_
                refine l_nil ?_
                refine n_then ?_
                refine t_ret ?_
                refine n_ret_block ?_
                refine n_ret_then ?_
                refine n_ret2 rfl rfl rfl (fun w' hw => ?_)
                -- leaf 6
                refine ⟨?_, hw.below⟩
                rw [twoP, if_neg hc0, if_neg hc1, if_neg hc2, if_neg hc3, if_neg hc4, if_neg hc5, if_pos hc6]
                rfl
              · skip
                simp only [decide_eq_true_eq, decide_eq_false_iff_not] at hc6
                refine t_seq ?_
                refine t_region ?_
                refine l_q rfl rfl rfl (q_eql_str rfl rfl rfl) ?_
                refine l_q rfl rfl rfl (q_assign rfl rfl) ?_
                refine l_nil ?_
                refine n_then ?_
                refine t_cond rfl (fun hc7 => ?_) (fun hc7 => ?_)
                · skip
                  simp only [decide_eq_true_eq, decide_eq_false_iff_not] at hc7
                  refine t_seq ?_
                  refine t_region ?_
                  refine l_q rfl rfl rfl (q_move rfl rfl) ?_
                  refine l_q rfl rfl rfl (q_move rfl rfl) ?_
                  refine l_q rfl rfl rfl (q_mul rfl rfl rfl) ?_
                  refine l_q rfl rfl rfl (q_assign rfl rfl) ?_
                  refine l_q rfl rfl rfl (q_assign rfl rfl) ?_
                  refine l_nil ?_
                  refine n_then ?_
                  refine t_ret ?_
                  refine n_ret_block ?_
                  refine n_ret_then ?_
                  refine n_ret2 rfl rfl rfl (fun w' hw => ?_)
                  -- leaf 7
                  refine ⟨?_, hw.below⟩
                  rw [twoP, if_neg hc0, if_neg hc1, if_neg hc2, if_neg hc3, if_neg hc4, if_neg hc5, if_neg hc6, if_pos hc7]
                  rfl
                · skip
                  simp only [decide_eq_true_eq, decide_eq_false_iff_not] at hc7
                  refine t_cutE (ι := Unit) (fun _ => True) (fun _ => [(51, .bool (decide (op = [47] ∨ op = [37])))]) [(0, _), (1, _), (2, _), (6, _), (7, _), (8, _), (9, _), (14, _), (19, _), (24, _), (30, _), (36, _), (41, _), (46, _)] (fun _ => look w) (fun _ => []) (sub_cons rfl (sub_cons rfl (sub_cons rfl (sub_cons rfl (sub_cons rfl (sub_cons rfl (sub_cons rfl (sub_cons rfl (sub_cons rfl (sub_cons rfl (sub_cons rfl (sub_cons rfl (sub_cons rfl (sub_cons rfl sub_nil)))))))))))))) ?_ ?_
                  · skip
                    refine t_seq ?_
                    refine t_region ?_
                    refine l_q rfl rfl rfl (q_eql_str rfl rfl rfl) ?_
                    refine l_q rfl rfl rfl (q_assign rfl rfl) ?_
                    refine l_nil ?_
                    refine n_then ?_
                    refine t_cond rfl (fun hc8 => ?_) (fun hc8 => ?_)
                    · skip
                      refine t_skip ?_
                      refine n_cut (()) ?_ (sub_cons' rfl (by rw [hc8, decide_eq_true (Or.inl (of_decide_eq_true hc8))]) (sub_nil)) (sub_cons rfl (sub_cons rfl (sub_cons rfl (sub_cons rfl (sub_cons rfl (sub_cons rfl (sub_cons rfl (sub_cons rfl (sub_cons rfl (sub_cons rfl (sub_cons rfl (sub_cons rfl (sub_cons rfl (sub_cons rfl sub_nil)))))))))))))) (fun _ h => by try dsimp only; exact subC_st h)
                      · trivial
                    · skip
                      refine t_region ?_
                      refine l_q rfl rfl rfl (q_eql_str rfl rfl rfl) ?_
                      refine l_q rfl rfl rfl (q_assign rfl rfl) ?_
                      refine l_nil ?_
                      refine n_cut (()) ?_ (sub_cons' rfl (congrArg Value.bool (by rw [show (decide (op = [47] ∨ op = [37])) = decide (op = [37]) from by rw [decide_eq_decide]; exact ⟨fun h => h.resolve_left (of_decide_eq_false hc8), Or.inr⟩])) (sub_nil)) (sub_cons rfl (sub_cons rfl (sub_cons rfl (sub_cons rfl (sub_cons rfl (sub_cons rfl (sub_cons rfl (sub_cons rfl (sub_cons rfl (sub_cons rfl (sub_cons rfl (sub_cons rfl (sub_cons rfl (sub_cons rfl sub_nil)))))))))))))) (fun _ h => by try dsimp only; exact subC_st h)
                      · trivial
                  rintro _ _
                  refine t_cond rfl (fun hc9 => ?_) (fun hc9 => ?_)
                  · skip
                    have hor : (op = [47] ∨ op = [37]) := of_decide_eq_true hc9
                    refine t_seq ?_
                    refine t_block ?_
                    refine t_seq ?_
                    refine t_region ?_
                    refine l_q rfl rfl rfl (q_move rfl rfl) ?_
                    refine l_q rfl rfl rfl (q_eql rfl rfl rfl) ?_
                    refine l_q rfl rfl rfl (q_assign rfl rfl) ?_
                    refine l_nil ?_
                    refine n_then ?_
                    refine t_cond rfl (fun hc10 => ?_) (fun hc10 => ?_)
                    · skip
                      simp only [decide_eq_true_eq, decide_eq_false_iff_not] at hc10
                      refine t_seq ?_
                      refine t_region ?_
                      refine l_q rfl rfl rfl (q_assign rfl rfl) ?_
                      refine l_q rfl rfl rfl (q_assign rfl rfl) ?_
                      refine l_nil ?_
                      refine n_then ?_
                      refine t_ret ?_
                      refine n_ret_block ?_
                      refine n_ret_then ?_
                      refine n_ret_block ?_
                      refine n_ret_then ?_
                      refine n_ret2 rfl rfl rfl (fun w' hw => ?_)
                      -- leaf 8
                      refine ⟨?_, hw.below⟩
                      rw [twoP, if_neg hc0, if_neg hc1, if_neg hc2, if_neg hc3, if_neg hc4, if_neg hc5, if_neg hc6, if_neg hc7, if_pos hor, if_pos hc10]
                      rfl
                    · skip
                      simp only [decide_eq_true_eq, decide_eq_false_iff_not] at hc10
                      have hb0 : ¬ b = 0 := hc10
                      refine t_seq ?_
                      refine t_qreg ?_
                      refine s_q rfl rfl rfl (q_move rfl rfl) ?_
                      refine s_q rfl rfl rfl (q_eql rfl rfl rfl) ?_
                      refine s_q rfl rfl rfl (q_move rfl rfl) ?_
                      refine s_and2 2 2 60 63 62 _ _ rfl rfl rfl rfl rfl rfl (fun h63 => by
                          try simp at h63
                          refine s_g rfl rfl rfl rfl rfl rfl (q_move rfl rfl) ?_
                          refine s_g rfl rfl rfl rfl rfl rfl (q_eql rfl rfl rfl) ?_
                          exact s_val rfl
                        ) (wanted_n rfl) rfl rfl rfl ?_
                      refine s_q rfl rfl rfl (q_move rfl rfl) ?_
                      refine s_and2 2 6 64 67 66 _ _ rfl rfl rfl rfl rfl rfl (fun h67 => by
                          try simp at h67
                          refine s_g rfl rfl rfl rfl rfl rfl (q_move rfl rfl) ?_
                          refine s_g rfl rfl rfl rfl rfl rfl (q_eql_str rfl rfl rfl) ?_
                          exact s_val rfl
                        ) (wanted_n rfl) rfl rfl rfl ?_
                      refine s_q rfl rfl rfl (q_assign rfl rfl) ?_
                      refine s_done ?_
                      refine n_then ?_
                      refine t_cond rfl (fun hc11 => ?_) (fun hc11 => ?_)
                      · skip
                        have hb0 : ¬ b = 0 := hb0
                        have h11 : a = -9223372036854775808 ∧ b = -1 ∧ op = [47] := by
                          simp only [Bool.and_eq_true, decide_eq_true_eq] at hc11
                          exact ⟨hc11.1.1, hc11.1.2, hc11.2⟩
                        refine t_seq ?_
                        refine t_region ?_
                        refine l_q rfl rfl rfl (q_move rfl rfl) ?_
                        refine l_q rfl rfl rfl (q_assign rfl rfl) ?_
                        refine l_q rfl rfl rfl (q_assign rfl rfl) ?_
                        refine l_nil ?_
                        refine n_then ?_
                        refine t_ret ?_
                        refine n_ret_block ?_
                        refine n_ret_then ?_
                        refine n_ret_block ?_
                        refine n_ret_then ?_
                        refine n_ret2 rfl rfl rfl (fun w' hw => ?_)
                        -- leaf 9
                        refine ⟨?_, hw.below⟩
                        rw [twoP, if_neg hc0, if_neg hc1, if_neg hc2, if_neg hc3, if_neg hc4, if_neg hc5, if_neg hc6, if_neg hc7, if_pos hor, if_neg hb0, if_pos h11]
                        rfl
                      · skip
                        have h11 : ¬ (a = -9223372036854775808 ∧ b = -1 ∧ op = [47]) := fun ⟨h1, h2, h3⟩ => by
                          have h : ((decide (a = -9223372036854775808) && decide (b = -1)) && decide (op = [47])) = false := hc11
                          rw [decide_eq_true h1, decide_eq_true h2, decide_eq_true h3] at h
                          cases h
                        refine t_seq ?_
                        refine t_qreg ?_
                        refine s_q rfl rfl rfl (q_move rfl rfl) ?_
                        refine s_q rfl rfl rfl (q_eql rfl rfl rfl) ?_
                        refine s_q rfl rfl rfl (q_move rfl rfl) ?_
                        refine s_and2 2 2 72 75 74 _ _ rfl rfl rfl rfl rfl rfl (fun h75 => by
                            try simp at h75
                            refine s_g rfl rfl rfl rfl rfl rfl (q_move rfl rfl) ?_
                            refine s_g rfl rfl rfl rfl rfl rfl (q_eql_str rfl rfl rfl) ?_
                            exact s_val rfl
                          ) (wanted_n rfl) rfl rfl rfl ?_
                        refine s_q rfl rfl rfl (q_assign rfl rfl) ?_
                        refine s_done ?_
                        refine n_then ?_
                        refine t_cond rfl (fun hc12 => ?_) (fun hc12 => ?_)
                        · skip
                          have h12 : b = -1 ∧ op = [37] := by
                            simp only [Bool.and_eq_true, decide_eq_true_eq] at hc12
                            exact hc12
                          refine t_seq ?_
                          refine t_region ?_
                          refine l_q rfl rfl rfl (q_assign rfl rfl) ?_
                          refine l_q rfl rfl rfl (q_assign rfl rfl) ?_
                          refine l_nil ?_
                          refine n_then ?_
                          refine t_ret ?_
                          refine n_ret_block ?_
                          refine n_ret_then ?_
                          refine n_ret_block ?_
                          refine n_ret_then ?_
                          refine n_ret2 rfl rfl rfl (fun w' hw => ?_)
                          -- leaf 10
                          refine ⟨?_, hw.below⟩
                          rw [twoP, if_neg hc0, if_neg hc1, if_neg hc2, if_neg hc3, if_neg hc4, if_neg hc5, if_neg hc6, if_neg hc7, if_pos hor, if_neg hb0, if_neg h11, if_pos h12]
                          rfl
                        · skip
                          have h12 : ¬ (b = -1 ∧ op = [37]) := fun ⟨h1, h2⟩ => by
                            have h : (decide (b = -1) && decide (op = [37])) = false := hc12
                            rw [decide_eq_true h1, decide_eq_true h2] at h
                            cases h
                          refine t_seq ?_
                          refine t_region ?_
                          refine l_q rfl rfl rfl (q_move rfl rfl) ?_
                          refine l_q rfl rfl rfl (q_eql_str rfl rfl rfl) ?_
                          refine l_q rfl rfl rfl (q_assign rfl rfl) ?_
                          refine l_nil ?_
                          refine n_then ?_
                          refine t_cond rfl (fun hc13 => ?_) (fun hc13 => ?_)
                          · skip
                            simp only [decide_eq_true_eq, decide_eq_false_iff_not] at hc13
                            have h13 : op = [47] := hc13
                            refine t_seq ?_
                            refine t_region ?_
                            refine l_q rfl rfl rfl (q_move rfl rfl) ?_
                            refine l_q rfl rfl rfl (q_move rfl rfl) ?_
                            refine l_q rfl rfl rfl (q_quo rfl rfl rfl hb0) ?_
                            refine l_q rfl rfl rfl (q_assign rfl rfl) ?_
                            refine l_q rfl rfl rfl (q_assign rfl rfl) ?_
                            refine l_nil ?_
                            refine n_then ?_
                            refine t_ret ?_
                            refine n_ret_block ?_
                            refine n_ret_then ?_
                            refine n_ret_block ?_
                            refine n_ret_then ?_
                            refine n_ret2 rfl rfl rfl (fun w' hw => ?_)
                            -- leaf 11
                            refine ⟨?_, hw.below⟩
                            rw [twoP, if_neg hc0, if_neg hc1, if_neg hc2, if_neg hc3, if_neg hc4, if_neg hc5, if_neg hc6, if_neg hc7, if_pos hor, if_neg hb0, if_neg h11, if_neg h12, if_pos h13]
                            rfl
                          · skip
                            simp only [decide_eq_true_eq, decide_eq_false_iff_not] at hc13
                            have h13 : ¬ op = [47] := hc13
                            refine t_skip ?_
                            refine n_block ?_
                            refine n_then ?_
                            refine t_seq ?_
                            refine t_region ?_
                            refine l_q rfl rfl rfl (q_move rfl rfl) ?_
                            refine l_q rfl rfl rfl (q_move rfl rfl) ?_
                            refine l_q rfl rfl rfl (q_rem rfl rfl rfl hb0) ?_
                            refine l_q rfl rfl rfl (q_assign rfl rfl) ?_
                            refine l_q rfl rfl rfl (q_assign rfl rfl) ?_
                            refine l_nil ?_
                            refine n_then ?_
                            refine t_ret ?_
                            refine n_ret_block ?_
                            refine n_ret_then ?_
                            refine n_ret2 rfl rfl rfl (fun w' hw => ?_)
                            -- leaf 12
                            refine ⟨?_, hw.below⟩
                            rw [twoP, if_neg hc0, if_neg hc1, if_neg hc2, if_neg hc3, if_neg hc4, if_neg hc5, if_neg hc6, if_neg hc7, if_pos hor, if_neg hb0, if_neg h11, if_neg h12, if_neg h13]
                            rfl
                  · skip
                    have hor : ¬ (op = [47] ∨ op = [37]) := of_decide_eq_false hc9
                    refine t_seq ?_
                    refine t_region ?_
                    refine l_q rfl rfl rfl (q_eql_str rfl rfl rfl) ?_
                    refine l_q rfl rfl rfl (q_assign rfl rfl) ?_
                    refine l_nil ?_
                    refine n_then ?_
                    refine t_cond rfl (fun hc14 => ?_) (fun hc14 => ?_)
                    · skip
                      simp only [decide_eq_true_eq, decide_eq_false_iff_not] at hc14
                      refine t_seq ?_
                      refine t_region ?_
                      refine l_q rfl rfl rfl (q_move rfl rfl) ?_
                      refine l_q rfl rfl rfl (q_move rfl rfl) ?_
                      refine l_q rfl rfl rfl (q_eql rfl rfl rfl) ?_
                      refine l_q rfl rfl rfl (quiet_call rfl rfl rfl Tryd.func22 (by kernel_rfl) rfl ((fun w _ => truth_pure _ w))) ?_
                      refine l_q rfl rfl rfl (q_assign rfl rfl) ?_
                      refine l_q rfl rfl rfl (q_assign rfl rfl) ?_
                      refine l_nil ?_
                      refine n_then ?_
                      refine t_ret ?_
                      refine n_ret_block ?_
                      refine n_ret_then ?_
                      refine n_ret2 rfl rfl rfl (fun w' hw => ?_)
                      -- leaf 13
                      refine ⟨?_, hw.below⟩
                      rw [twoP, if_neg hc0, if_neg hc1, if_neg hc2, if_neg hc3, if_neg hc4, if_neg hc5, if_neg hc6, if_neg hc7, if_neg hor, if_pos hc14]
                      rfl
                    · skip
                      simp only [decide_eq_true_eq, decide_eq_false_iff_not] at hc14
                      refine t_seq ?_
                      refine t_region ?_
                      refine l_q rfl rfl rfl (q_eql_str rfl rfl rfl) ?_
                      refine l_q rfl rfl rfl (q_assign rfl rfl) ?_
                      refine l_nil ?_
                      refine n_then ?_
                      refine t_cond rfl (fun hc15 => ?_) (fun hc15 => ?_)
                      · skip
                        simp only [decide_eq_true_eq, decide_eq_false_iff_not] at hc15
                        refine t_seq ?_
                        refine t_region ?_
                        refine l_q rfl rfl rfl (q_move rfl rfl) ?_
                        refine l_q rfl rfl rfl (q_move rfl rfl) ?_
                        refine l_q rfl rfl rfl (q_neq rfl rfl rfl) ?_
                        refine l_q rfl rfl rfl (quiet_call rfl rfl rfl Tryd.func22 (by kernel_rfl) rfl ((fun w _ => truth_pure _ w))) ?_
                        refine l_q rfl rfl rfl (q_assign rfl rfl) ?_
                        refine l_q rfl rfl rfl (q_assign rfl rfl) ?_
                        refine l_nil ?_
                        refine n_then ?_
                        refine t_ret ?_
                        refine n_ret_block ?_
                        refine n_ret_then ?_
                        refine n_ret2 rfl rfl rfl (fun w' hw => ?_)
                        -- leaf 14
                        refine ⟨?_, hw.below⟩
                        rw [twoP, if_neg hc0, if_neg hc1, if_neg hc2, if_neg hc3, if_neg hc4, if_neg hc5, if_neg hc6, if_neg hc7, if_neg hor, if_neg hc14, if_pos hc15]
                        rfl
                      · skip
                        simp only [decide_eq_true_eq, decide_eq_false_iff_not] at hc15
                        refine t_seq ?_
                        refine t_region ?_
                        refine l_q rfl rfl rfl (q_eql_str rfl rfl rfl) ?_
                        refine l_q rfl rfl rfl (q_assign rfl rfl) ?_
                        refine l_nil ?_
                        refine n_then ?_
                        refine t_cond rfl (fun hc16 => ?_) (fun hc16 => ?_)
                        · skip
                          simp only [decide_eq_true_eq, decide_eq_false_iff_not] at hc16
                          refine t_seq ?_
                          refine t_region ?_
                          refine l_q rfl rfl rfl (q_move rfl rfl) ?_
                          refine l_q rfl rfl rfl (q_move rfl rfl) ?_
                          refine l_q rfl rfl rfl (q_lss rfl rfl rfl) ?_
                          refine l_q rfl rfl rfl (quiet_call rfl rfl rfl Tryd.func22 (by kernel_rfl) rfl ((fun w _ => truth_pure _ w))) ?_
                          refine l_q rfl rfl rfl (q_assign rfl rfl) ?_
                          refine l_q rfl rfl rfl (q_assign rfl rfl) ?_
                          refine l_nil ?_
                          refine n_then ?_
                          refine t_ret ?_
                          refine n_ret_block ?_
                          refine n_ret_then ?_
                          refine n_ret2 rfl rfl rfl (fun w' hw => ?_)
                          -- leaf 15
                          refine ⟨?_, hw.below⟩
                          rw [twoP, if_neg hc0, if_neg hc1, if_neg hc2, if_neg hc3, if_neg hc4, if_neg hc5, if_neg hc6, if_neg hc7, if_neg hor, if_neg hc14, if_neg hc15, if_pos hc16]
                          rfl
                        · skip
                          simp only [decide_eq_true_eq, decide_eq_false_iff_not] at hc16
                          refine t_seq ?_
                          refine t_region ?_
                          refine l_q rfl rfl rfl (q_eql_str rfl rfl rfl) ?_
                          refine l_q rfl rfl rfl (q_assign rfl rfl) ?_
                          refine l_nil ?_
                          refine n_then ?_
                          refine t_cond rfl (fun hc17 => ?_) (fun hc17 => ?_)
                          · skip
                            simp only [decide_eq_true_eq, decide_eq_false_iff_not] at hc17
                            refine t_seq ?_
                            refine t_region ?_
                            refine l_q rfl rfl rfl (q_move rfl rfl) ?_
                            refine l_q rfl rfl rfl (q_move rfl rfl) ?_
                            refine l_q rfl rfl rfl (q_leq rfl rfl rfl) ?_
                            refine l_q rfl rfl rfl (quiet_call rfl rfl rfl Tryd.func22 (by kernel_rfl) rfl ((fun w _ => truth_pure _ w))) ?_
                            refine l_q rfl rfl rfl (q_assign rfl rfl) ?_
                            refine l_q rfl rfl rfl (q_assign rfl rfl) ?_
                            refine l_nil ?_
                            refine n_then ?_
                            refine t_ret ?_
                            refine n_ret_block ?_
                            refine n_ret_then ?_
                            refine n_ret2 rfl rfl rfl (fun w' hw => ?_)
                            -- leaf 16
                            refine ⟨?_, hw.below⟩
                            rw [twoP, if_neg hc0, if_neg hc1, if_neg hc2, if_neg hc3, if_neg hc4, if_neg hc5, if_neg hc6, if_neg hc7, if_neg hor, if_neg hc14, if_neg hc15, if_neg hc16, if_pos hc17]
                            rfl
                          · skip
                            simp only [decide_eq_true_eq, decide_eq_false_iff_not] at hc17
                            refine t_seq ?_
                            refine t_region ?_
                            refine l_q rfl rfl rfl (q_eql_str rfl rfl rfl) ?_
                            refine l_q rfl rfl rfl (q_assign rfl rfl) ?_
                            refine l_nil ?_
                            refine n_then ?_
                            refine t_cond rfl (fun hc18 => ?_) (fun hc18 => ?_)
                            · skip
                              simp only [decide_eq_true_eq, decide_eq_false_iff_not] at hc18
                              refine t_seq ?_
                              refine t_region ?_
                              refine l_q rfl rfl rfl (q_move rfl rfl) ?_
                              refine l_q rfl rfl rfl (q_move rfl rfl) ?_
                              refine l_q rfl rfl rfl (q_gtr rfl rfl rfl) ?_
                              refine l_q rfl rfl rfl (quiet_call rfl rfl rfl Tryd.func22 (by kernel_rfl) rfl ((fun w _ => truth_pure _ w))) ?_
                              refine l_q rfl rfl rfl (q_assign rfl rfl) ?_
                              refine l_q rfl rfl rfl (q_assign rfl rfl) ?_
                              refine l_nil ?_
                              refine n_then ?_
                              refine t_ret ?_
                              refine n_ret_block ?_
                              refine n_ret_then ?_
                              refine n_ret2 rfl rfl rfl (fun w' hw => ?_)
                              -- leaf 17
                              refine ⟨?_, hw.below⟩
                              rw [twoP, if_neg hc0, if_neg hc1, if_neg hc2, if_neg hc3, if_neg hc4, if_neg hc5, if_neg hc6, if_neg hc7, if_neg hor, if_neg hc14, if_neg hc15, if_neg hc16, if_neg hc17, if_pos hc18]
                              rfl
                            · skip
                              simp only [decide_eq_true_eq, decide_eq_false_iff_not] at hc18
                              refine t_skip ?_
                              refine n_block ?_
                              refine n_then ?_
                              refine t_seq ?_
                              refine t_region ?_
                              refine l_q rfl rfl rfl (q_move rfl rfl) ?_
                              refine l_q rfl rfl rfl (q_move rfl rfl) ?_
                              refine l_q rfl rfl rfl (q_geq rfl rfl rfl) ?_
                              refine l_q rfl rfl rfl (quiet_call rfl rfl rfl Tryd.func22 (by kernel_rfl) rfl ((fun w _ => truth_pure _ w))) ?_
                              refine l_q rfl rfl rfl (q_assign rfl rfl) ?_
                              refine l_q rfl rfl rfl (q_assign rfl rfl) ?_
                              refine l_nil ?_
                              refine n_then ?_
                              refine t_ret ?_
                              refine n_ret2 rfl rfl rfl (fun w' hw => ?_)
                              -- leaf 18
                              refine ⟨?_, hw.below⟩
                              rw [twoP, if_neg hc0, if_neg hc1, if_neg hc2, if_neg hc3, if_neg hc4, if_neg hc5, if_neg hc6, if_neg hc7, if_neg hor, if_neg hc14, if_neg hc15, if_neg hc16, if_neg hc17, if_neg hc18]
                              rfl
end Go.Tri
