/-
  An expression as it is worked.
-/
import Derived.Test.YtjdcefhllbfacaaDoorAB2
namespace Go.Tri
open Go.Proofs Go.RowKit
theorem ev_read {s : List UInt8} {vs : List (List UInt8 × List UInt8)} {e : Nat} (h : readA s = .bad e) : evalP s vs = (0, [], e) := by
  unfold evalP; rw [h]
theorem ev_bad {s : List UInt8} {vs : List (List UInt8 × List UInt8)} {x : Ex} {e : Nat} (h : readA s = .ok x) (hw : workP vs x [] = .bad e) : evalP s vs = (0, [], e) := by
  unfold evalP; rw [h]; simp only; rw [hw]
theorem ev_ok {s : List UInt8} {vs : List (List UInt8 × List UInt8)} {x : Ex} {v : Int} {S : List Ass} (h : readA s = .ok x) (hw : workP vs x [] = .ok v S) : evalP s vs = (v, S, 0) := by
  unfold evalP; rw [h]; simp only; rw [hw]
theorem nil_vars (I : Look) : Sl I 5 nilS ([].map vrC) := sl_nil (fun _ h => by cases h)
set_option maxRecDepth 100000 in
theorem eqAs (c d : Ass) (w : World) : (Op.equalIn 10000 37 (.agg (asC c).toArray) (.agg (asC d).toArray)).run Tryd.prog w = .ok (decide (c = d)) w := by
  rw [run_equalIn_agg w 9999 37 _ _ (by kernel_rfl) (by kernel_rfl)]
  show (Op.eqFields 9999 _ _ [_, _]).run Tryd.prog w = _
  simp [Op.eqFields, asC, str, part, run_isAgg_false Tryd.underlying2 rfl, run_isAgg_false Tryd.underlying9 rfl]
  have ei : ∀ (x y : Int) (w : World), (Op.equalIn 9999 2 (.int .i64 x) (.int .i64 y)).run Tryd.prog w = .ok (x == y) w := fun x y w => run_equalIn_int (P := Tryd.prog) w 9998 2 .i64 .i64 x y Tryd.underlying2
  have es : ∀ (x y : ByteArray) (w : World), (Op.equalIn 9999 9 (.string x) (.string y)).run Tryd.prog w = .ok (x.toList == y.toList) w := fun x y w => run_equalIn_string (P := Tryd.prog) w 9998 9 x y Tryd.underlying9
  obtain ⟨c1, c2⟩ := c
  obtain ⟨d1, d2⟩ := d
  simp only [ei, es, Result.andThen_ok, ByteArray.toList_eq, Prod.mk.injEq]
  by_cases h1 : c1 = d1 <;> by_cases h2 : c2 = d2 <;> simp [h1, h2]
theorem same_nth {l k : List Ass} (hl : l.length = k.length) (h : ∀ j, j < l.length → nth l j as0 = nth k j as0) : l = k := by
  refine List.ext_getElem hl fun j h1 h2 => ?_
  have := h j h1
  rwa [nth_eq h1, nth_eq h2] at this
set_option maxRecDepth 10000 in
theorem eval_calls (s : List UInt8) (vv : Value) (vars : List Vr) (I : Look) (F : List HA) (w0 w : World) (hs : s.length ≤ 1000000) (hv : Sl I 5 vv (vars.map vrC)) (hV : VarsOk vars) (hG : EnvI I) (hw0 : St w0 I F w) : Calls Tryd.prog 8 [str s, vv].toArray w (fun e w' => ∃ v, e = .returned v ∧ ∃ I' H', (Le I I' ∧ F = H' ∧ ∃ sl, v = .tuple #[.int .i64 (evalP s (vars.map Vr.nv)).1, sl, .int .i64 ((evalP s (vars.map Vr.nv)).2.2 : Int)] ∧ Sl I' 2 sl ((evalP s (vars.map Vr.nv)).2.1.map asC)) ∧ St w I' H' w') := by
  refine enter Tryd.func8 rfl Tryd.ntmps8 rfl (hw0.self) ?_
  refine t_seq ?_
  refine t_region ?_
  refine l_q rfl rfl rfl (q_assign rfl rfl) ?_
  refine l_q rfl rfl rfl (q_assign rfl rfl) ?_
  refine l_q rfl rfl rfl (q_assign rfl rfl) ?_
  refine l_nil ?_
  refine n_then ?_
  refine t_seq ?_
  refine t_region ?_
  refine l_q rfl rfl rfl (q_move rfl rfl) ?_
  refine l_e rfl rfl rfl (eff_call rfl rfl rfl Tryd.func12 (by kernel_rfl) rfl (fun w hw => read_calls s _ _ _ w hs hG hw)) ?_
  rintro _ J13 _ ⟨hJ13, rfl, q13, e13, rfl, hr13⟩
  refine l_q rfl rfl rfl (q_move rfl rfl) ?_
  refine l_q rfl rfl rfl (q_extract rfl rfl rfl) ?_
  refine l_q rfl rfl rfl (q_extract rfl rfl rfl) ?_
  refine l_q rfl rfl rfl (q_assign rfl rfl) ?_
  refine l_q rfl rfl rfl (q_assign rfl rfl) ?_
  refine l_nil ?_
  refine n_then ?_
  refine t_seq ?_
  refine t_seq ?_
  refine t_region ?_
  refine l_q rfl rfl rfl (q_move rfl rfl) ?_
  refine l_q rfl rfl rfl (q_neq rfl rfl rfl) ?_
  refine l_nil ?_
  refine n_then ?_
  refine t_cond rfl (fun hc0 => ?_) (fun hc0 => ?_)
  · skip
    have he : e13 ≠ 0 := by have := of_decide_eq_true hc0; omega
    have hE := ev_read (vs := (vars.map Vr.nv)) (hr13.f he)
    refine t_seq ?_
    refine t_region ?_
    refine l_q rfl rfl rfl (q_move rfl rfl) ?_
    refine l_q rfl rfl rfl (q_assign rfl rfl) ?_
    refine l_q rfl rfl rfl (q_assign rfl rfl) ?_
    refine l_q rfl rfl rfl (q_assign rfl rfl) ?_
    refine l_nil ?_
    refine n_then ?_
    refine t_ret ?_
    refine n_ret_then ?_
    refine n_ret3 rfl rfl rfl rfl (fun w' hw => ?_)
    -- leaf 0
    refine ⟨_, rfl, J13, _, ⟨hJ13, rfl, nilS, ?_, ?_⟩, hw⟩
    · rw [hE]; rfl
    · rw [hE]; exact sl_nil (fun _ h => by cases h)
  · skip
    have he : e13 = 0 := by have := of_decide_eq_false hc0; omega
    obtain ⟨x13, hx, hxa⟩ := hr13.t he
    refine t_skip ?_
    refine n_then ?_
    refine t_seq ?_
    refine t_region ?_
    refine l_q rfl rfl rfl (q_move rfl rfl) ?_
    refine l_q rfl rfl rfl (q_build (pl := [(_, _), (_, _)]) (cs := ([vv, .slice none 0 0]).toArray) rfl Tryd.underlying45 ti45 ⟨rfl, ⟨_, _, ti22⟩, rfl, ⟨_, _, ti24⟩, trivial⟩ rfl (by obtain ⟨A, c, h⟩ := Sl.lenOf hv rfl; rw [h]; rfl)) ?_
    refine l_e rfl rfl rfl (e_box rfl rfl rfl) ?_
    rintro _ _ _ ⟨b21, rfl, rfl, rfl⟩
    refine l_heap (H' := row b21 45 [vv, (.slice none 0 0)] :: tvec 37 2 asC (.slice none 0 0) [] :: F) ?_ (fun _ h => subC_st (st_nilT 37 2 asC h))
    refine l_q rfl rfl rfl (q_assign rfl rfl) ?_
    refine l_nil ?_
    refine n_then ?_
    refine t_seq ?_
    refine t_region ?_
    refine l_q rfl rfl rfl (q_move rfl rfl) ?_
    refine l_q rfl rfl rfl (q_move rfl rfl) ?_
    refine l_e rfl rfl rfl (eff_call rfl rfl rfl Tryd.func13 (by kernel_rfl) rfl (fun w hw => work_all x13 b21 vv (.slice none 0 0) vars [] q13 _ _ _ w hxa (hv.mono hJ13) hV (by have := readA_sz hs hx; simp only [List.length_nil]; omega) (picks_st2 (row b21 45 [vv, (.slice none 0 0)]) (tvec 37 2 asC (.slice none 0 0) []) hw))) ?_
    rintro _ _ _ ⟨rfl, a25, e25, sv25, S25, rfl, rfl, hr25⟩
    refine l_q rfl rfl rfl (q_move rfl rfl) ?_
    refine l_q rfl rfl rfl (q_extract rfl rfl rfl) ?_
    refine l_q rfl rfl rfl (q_extract rfl rfl rfl) ?_
    refine l_q rfl rfl rfl (q_assign rfl rfl) ?_
    refine l_q rfl rfl rfl (q_assign rfl rfl) ?_
    refine l_nil ?_
    refine n_then ?_
    refine t_seq ?_
    refine t_seq ?_
    refine t_region ?_
    refine l_q rfl rfl rfl (q_move rfl rfl) ?_
    refine l_q rfl rfl rfl (q_neq rfl rfl rfl) ?_
    refine l_nil ?_
    refine n_then ?_
    refine t_cond rfl (fun hc1 => ?_) (fun hc1 => ?_)
    · skip
      have he2 : e25 ≠ 0 := by have := of_decide_eq_true hc1; omega
      have hE := ev_bad hx (hr25.f he2)
      refine t_seq ?_
      refine t_region ?_
      refine l_q rfl rfl rfl (q_move rfl rfl) ?_
      refine l_q rfl rfl rfl (q_assign rfl rfl) ?_
      refine l_q rfl rfl rfl (q_assign rfl rfl) ?_
      refine l_q rfl rfl rfl (q_assign rfl rfl) ?_
      refine l_nil ?_
      refine n_then ?_
      refine t_ret ?_
      refine n_ret_then ?_
      refine n_ret3 rfl rfl rfl rfl (fun w' hw => ?_)
      -- leaf 1
      refine ⟨_, rfl, J13, F, ⟨hJ13, rfl, nilS, ?_, ?_⟩, subC_st hw⟩
      · rw [hE]; rfl
      · rw [hE]; exact sl_nil (fun _ h => by cases h)
    · skip
      have he2 : e25 = 0 := by have := of_decide_eq_false hc1; omega
      have hE := ev_ok hx (hr25.t he2)
      refine t_skip ?_
      refine n_then ?_
      refine t_seq ?_
      refine t_freezeT (f := asC) (l := S25) sv25 (fun _ => rfl) (fun J8 hJ8 hsl => ?_)
      refine t_qdraw mo (by kernel_rfl) (fun _ _ _ _ _ h => h) ?_
      refine s_q rfl rfl rfl (q_move rfl rfl) ?_
      refine s_q rfl rfl rfl (q_move rfl rfl) ?_
      refine s_q rfl rfl rfl (q_nilCheck rfl rfl) ?_
      refine s_q rfl rfl rfl (q_fieldAddr rfl Tryd.underlying45 rfl rfl ti24 rfl rfl) ?_
      refine s_q rfl rfl rfl (q_load_row rfl Tryd.underlying24 rfl rfl (by rfl)) ?_
      refine s_q rfl rfl rfl (q_assign rfl rfl) ?_
      refine s_q rfl rfl rfl (q_assign rfl rfl) ?_
      refine s_q rfl rfl rfl (q_assign rfl rfl) ?_
      refine s_done ?_
      refine n_then ?_
      refine t_ret ?_
      refine n_ret3 rfl rfl rfl rfl (fun w' hw => ?_)
      -- leaf 2
      refine ⟨_, rfl, J8, F, ⟨hJ13.trans hJ8, rfl, sv25, ?_, ?_⟩, subC_st hw⟩
      · rw [hE]; rfl
      · rw [hE]; exact hsl
end Go.Tri
