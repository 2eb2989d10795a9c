/-
  A scene is laid.
-/
import Derived.Test.YtbogmbdfjgnfaaaGreatDoorEM4
namespace Go.Tri
open Go.Proofs Go.RowKit
theorem sl_nilT {I : Look} {sz : Nat} : Sl I sz nilV [] := sl_nil (fun _ h => by cases h)
set_option maxRecDepth 10000 in
theorem set_calls (vars : List Vr) (al outs : List (List UInt8)) (vv sv ov : Value) (hvl : vars.length ≤ 1000000) (hvn : ∀ v ∈ vars, v.name.length ≤ 1000000000) (hon : outs.length ≤ 2000) (I : Look) (hvv : Sl I 5 vv (vars.map vrC)) (hsv : Sl I 1 sv (al.map svC)) (hov : Sl I 1 ov (outs.map svC)) (F : List HA) (w0 w : World) (hw0 : St w0 I F w) : Calls Tryz.prog 11 [.agg #[vv, sv, ov, nilV]].toArray w (fun e w' => ∃ v, e = .returned v ∧ ∃ I' H', (Le I I' ∧ ∃ p lv, v = .pointer (some ⟨p.eb, 0, none⟩) ∧ H' = row p.eb 43 (envC p nilV) :: row p.vb 65 [lv, p.gv] :: F ∧ HostI I' p lv ⟨layV vars, argsN al, outs, []⟩) ∧ St w I' H' w') := by
  refine enter Tryz.func11 rfl Tryz.ntmps11 rfl (hw0.self) ?_
  refine t_seq ?_
  refine t_region ?_
  refine l_e rfl rfl rfl (e_box rfl rfl rfl) ?_
  rintro _ _ _ ⟨b1, rfl, rfl, rfl⟩
  refine l_q rfl rfl rfl (q_assign rfl rfl) ?_
  refine l_nil ?_
  refine n_then ?_
  refine t_cutE (ι := Nat × Nat × Value × Value) (fun zz => True) (fun zz => [(3, .pointer (some ⟨zz.2.1, 0, none⟩))]) [(0, _), (1, _), (2, _)] (fun zz => I) (fun zz => (row zz.1 65 [nilV, nilV] :: row zz.2.1 43 [.pointer (some ⟨zz.1, 0, none⟩), nilV, zz.2.2.1, .int .i64 1, zz.2.2.2, nilV, str []] :: tvec 9 1 svC zz.2.2.2 outs :: row b1 26 [vv, sv, ov, nilV] :: F)) (sub_cons rfl (sub_cons rfl (sub_cons rfl sub_nil))) ?_ ?_
  · skip
    refine t_draw [1, 2, 3, 6, 8] [] [row b1 26 [vv, sv, ov, nilV]] mo (by kernel_rfl) (fun _ _ _ _ _ h => h) ?_
    refine r_qf 0 (by kernel_rfl) rfl rfl rfl rfl (fun _ => by exact q_build (pl := [(_, _), (_, _)]) (cs := ([nilV, nilV] : List Value).toArray) rfl Tryz.underlying65 ti65 ⟨rfl, ⟨_, _, ti23⟩, rfl, ⟨_, _, ti24⟩, trivial⟩ rfl rfl) ?_
    refine r_qf 4 (by kernel_rfl) rfl rfl rfl rfl (fun _ => q_fieldAddr rfl Tryz.underlying26 rfl rfl ti24 rfl rfl) ?_
    refine r_q0 5 (by kernel_rfl) rfl (Le.refl _) rfl rfl rfl (fun _ hI => q_load_row rfl Tryz.underlying24 rfl rfl (by rfl)) ?_
    refine r_three 1 2 3 (by kernel_rfl) (by kernel_rfl) ?_ ?_ ?_
    · skip
      refine x_e 1 rfl rfl (Le.refl _) rfl rfl rfl (e_box rfl rfl rfl) ?_
      rintro _ _ _ ⟨b9, rfl, rfl, rfl⟩
      refine ⟨Le.refl _, .inr SubC.sub, ?_⟩
      refine r_two 2 3 (by kernel_rfl) (by kernel_rfl) ?_ ?_
      · skip
        refine x_e 2 rfl rfl (Le.refl _) rfl rfl rfl (eff_call rfl rfl rfl Tryz.func24 (by kernel_rfl) rfl (fun w hw => new_calls _ _ _ w hw)) ?_
        rintro _ _ _ ⟨rfl, rfl, bf, rfl⟩
        refine ⟨Le.refl _, .inr SubC.sub, ?_⟩
        refine r_e 3 (by kernel_rfl) (by kernel_rfl) rfl (Le.refl _) rfl rfl rfl (e_buildSlice0 rfl Tryz.underlying24 ti9) ?_
        rintro v11 _ _ ⟨⟨b11, hb11⟩, rfl, rfl⟩
        refine ⟨Le.refl _, .inr SubC.sub, ?_⟩
        refine r_e 6 (by kernel_rfl) (by kernel_rfl) rfl (Le.refl _) rfl rfl rfl (e_appendSl (f := svC) (l := []) (ls := outs) rfl Tryz.underlying24 ti9 rfl rfl rfl rfl (hov) rfl (fun _ => rfl) svC_ones (by simp only [maxLen, List.length_nil]; omega) (by simp only [List.length_nil]; omega)) ?_
        rintro v14 _ _ ⟨rfl, rfl⟩
        refine ⟨Le.refl _, .inr SubC.sub, ?_⟩
        refine r_len v14 (fun hsh14 hone14 => ?_)
        refine r_heap (H' := tvec 9 1 svC v14 outs :: _) ?_ (fun _ h => h)
        refine r_qf 7 (by kernel_rfl) rfl rfl rfl rfl (fun _ => q_build (pl := [(_, _), (_, _), (_, _), (_, _), (_, _), (_, _), (_, _)]) (cs := (([.pointer (some ⟨b9, 0, none⟩), nilV, .pointer (some ⟨bf, 0, none⟩), .int .i64 1, v14, nilV, str []] : List Value)).toArray) rfl Tryz.underlying43 ti43 ⟨rfl, ⟨_, _, ti40⟩, rfl, ⟨_, _, ti23⟩, rfl, ⟨_, _, ti41⟩, rfl, ⟨_, _, ti3⟩, rfl, ⟨_, _, ti24⟩, rfl, ⟨_, _, ti24⟩, rfl, ⟨_, _, ti9⟩, trivial⟩ rfl (by obtain ⟨A, c, h⟩ := len_of hsh14; rw [h]; rfl)) ?_
        refine r_e 8 (by kernel_rfl) (by kernel_rfl) rfl (Le.refl _) rfl rfl rfl (e_box rfl rfl rfl) ?_
        rintro _ _ _ ⟨b16, rfl, rfl, rfl⟩
        refine ⟨Le.refl _, .inr SubC.sub, ?_⟩
        refine r_qf 9 (by kernel_rfl) rfl rfl rfl rfl (fun _ => q_assign rfl rfl) ?_
        refine r_end (by kernel_rfl) ?_
        refine n_cut ((b9, b16, .pointer (some ⟨bf, 0, none⟩), v14)) ?_ (sub_cons rfl sub_nil) (sub_cons rfl (sub_cons rfl (sub_cons rfl sub_nil))) (fun _ h => by try dsimp only; exact subC_st h)
        · trivial
      · skip
        refine x_e 3 rfl rfl (Le.refl _) rfl rfl rfl (e_buildSlice0 rfl Tryz.underlying24 ti9) ?_
        rintro v11 _ _ ⟨⟨b11, hb11⟩, rfl, rfl⟩
        refine ⟨Le.refl _, .inr SubC.sub, ?_⟩
        refine r_e 2 (by kernel_rfl) (by kernel_rfl) rfl (Le.refl _) rfl rfl rfl (eff_call rfl rfl rfl Tryz.func24 (by kernel_rfl) rfl (fun w hw => new_calls _ _ _ w hw)) ?_
        rintro _ _ _ ⟨rfl, rfl, bf, rfl⟩
        refine ⟨Le.refl _, .inr SubC.sub, ?_⟩
        refine r_e 6 (by kernel_rfl) (by kernel_rfl) rfl (Le.refl _) rfl rfl rfl (e_appendSl (f := svC) (l := []) (ls := outs) rfl Tryz.underlying24 ti9 rfl rfl rfl rfl (hov) rfl (fun _ => rfl) svC_ones (by simp only [maxLen, List.length_nil]; omega) (by simp only [List.length_nil]; omega)) ?_
        rintro v14 _ _ ⟨rfl, rfl⟩
        refine ⟨Le.refl _, .inr SubC.sub, ?_⟩
        refine r_len v14 (fun hsh14 hone14 => ?_)
        refine r_heap (H' := tvec 9 1 svC v14 outs :: _) ?_ (fun _ h => h)
        refine r_qf 7 (by kernel_rfl) rfl rfl rfl rfl (fun _ => q_build (pl := [(_, _), (_, _), (_, _), (_, _), (_, _), (_, _), (_, _)]) (cs := (([.pointer (some ⟨b9, 0, none⟩), nilV, .pointer (some ⟨bf, 0, none⟩), .int .i64 1, v14, nilV, str []] : List Value)).toArray) rfl Tryz.underlying43 ti43 ⟨rfl, ⟨_, _, ti40⟩, rfl, ⟨_, _, ti23⟩, rfl, ⟨_, _, ti41⟩, rfl, ⟨_, _, ti3⟩, rfl, ⟨_, _, ti24⟩, rfl, ⟨_, _, ti24⟩, rfl, ⟨_, _, ti9⟩, trivial⟩ rfl (by obtain ⟨A, c, h⟩ := len_of hsh14; rw [h]; rfl)) ?_
        refine r_e 8 (by kernel_rfl) (by kernel_rfl) rfl (Le.refl _) rfl rfl rfl (e_box rfl rfl rfl) ?_
        rintro _ _ _ ⟨b16, rfl, rfl, rfl⟩
        refine ⟨Le.refl _, .inr SubC.sub, ?_⟩
        refine r_qf 9 (by kernel_rfl) rfl rfl rfl rfl (fun _ => q_assign rfl rfl) ?_
        refine r_end (by kernel_rfl) ?_
        refine n_cut ((b9, b16, .pointer (some ⟨bf, 0, none⟩), v14)) ?_ (sub_cons rfl sub_nil) (sub_cons rfl (sub_cons rfl (sub_cons rfl sub_nil))) (fun _ h => by try dsimp only; exact subC_st h)
        · trivial
    · skip
      refine x_e 2 rfl rfl (Le.refl _) rfl rfl rfl (eff_call rfl rfl rfl Tryz.func24 (by kernel_rfl) rfl (fun w hw => new_calls _ _ _ w hw)) ?_
      rintro _ _ _ ⟨rfl, rfl, bf, rfl⟩
      refine ⟨Le.refl _, .inr SubC.sub, ?_⟩
      refine r_two 1 3 (by kernel_rfl) (by kernel_rfl) ?_ ?_
      · skip
        refine x_e 1 rfl rfl (Le.refl _) rfl rfl rfl (e_box rfl rfl rfl) ?_
        rintro _ _ _ ⟨b9, rfl, rfl, rfl⟩
        refine ⟨Le.refl _, .inr SubC.sub, ?_⟩
        refine r_e 3 (by kernel_rfl) (by kernel_rfl) rfl (Le.refl _) rfl rfl rfl (e_buildSlice0 rfl Tryz.underlying24 ti9) ?_
        rintro v11 _ _ ⟨⟨b11, hb11⟩, rfl, rfl⟩
        refine ⟨Le.refl _, .inr SubC.sub, ?_⟩
        refine r_e 6 (by kernel_rfl) (by kernel_rfl) rfl (Le.refl _) rfl rfl rfl (e_appendSl (f := svC) (l := []) (ls := outs) rfl Tryz.underlying24 ti9 rfl rfl rfl rfl (hov) rfl (fun _ => rfl) svC_ones (by simp only [maxLen, List.length_nil]; omega) (by simp only [List.length_nil]; omega)) ?_
        rintro v14 _ _ ⟨rfl, rfl⟩
        refine ⟨Le.refl _, .inr SubC.sub, ?_⟩
        refine r_len v14 (fun hsh14 hone14 => ?_)
        refine r_heap (H' := tvec 9 1 svC v14 outs :: _) ?_ (fun _ h => h)
        refine r_qf 7 (by kernel_rfl) rfl rfl rfl rfl (fun _ => q_build (pl := [(_, _), (_, _), (_, _), (_, _), (_, _), (_, _), (_, _)]) (cs := (([.pointer (some ⟨b9, 0, none⟩), nilV, .pointer (some ⟨bf, 0, none⟩), .int .i64 1, v14, nilV, str []] : List Value)).toArray) rfl Tryz.underlying43 ti43 ⟨rfl, ⟨_, _, ti40⟩, rfl, ⟨_, _, ti23⟩, rfl, ⟨_, _, ti41⟩, rfl, ⟨_, _, ti3⟩, rfl, ⟨_, _, ti24⟩, rfl, ⟨_, _, ti24⟩, rfl, ⟨_, _, ti9⟩, trivial⟩ rfl (by obtain ⟨A, c, h⟩ := len_of hsh14; rw [h]; rfl)) ?_
        refine r_e 8 (by kernel_rfl) (by kernel_rfl) rfl (Le.refl _) rfl rfl rfl (e_box rfl rfl rfl) ?_
        rintro _ _ _ ⟨b16, rfl, rfl, rfl⟩
        refine ⟨Le.refl _, .inr SubC.sub, ?_⟩
        refine r_qf 9 (by kernel_rfl) rfl rfl rfl rfl (fun _ => q_assign rfl rfl) ?_
        refine r_end (by kernel_rfl) ?_
        refine n_cut ((b9, b16, .pointer (some ⟨bf, 0, none⟩), v14)) ?_ (sub_cons rfl sub_nil) (sub_cons rfl (sub_cons rfl (sub_cons rfl sub_nil))) (fun _ h => by try dsimp only; exact subC_st h)
        · trivial
      · skip
        refine x_e 3 rfl rfl (Le.refl _) rfl rfl rfl (e_buildSlice0 rfl Tryz.underlying24 ti9) ?_
        rintro v11 _ _ ⟨⟨b11, hb11⟩, rfl, rfl⟩
        refine ⟨Le.refl _, .inr SubC.sub, ?_⟩
        refine r_two 1 6 (by kernel_rfl) (by kernel_rfl) ?_ ?_
        · skip
          refine x_e 1 rfl rfl (Le.refl _) rfl rfl rfl (e_box rfl rfl rfl) ?_
          rintro _ _ _ ⟨b9, rfl, rfl, rfl⟩
          refine ⟨Le.refl _, .inr SubC.sub, ?_⟩
          refine r_e 6 (by kernel_rfl) (by kernel_rfl) rfl (Le.refl _) rfl rfl rfl (e_appendSl (f := svC) (l := []) (ls := outs) rfl Tryz.underlying24 ti9 rfl rfl rfl rfl (hov) rfl (fun _ => rfl) svC_ones (by simp only [maxLen, List.length_nil]; omega) (by simp only [List.length_nil]; omega)) ?_
          rintro v14 _ _ ⟨rfl, rfl⟩
          refine ⟨Le.refl _, .inr SubC.sub, ?_⟩
          refine r_len v14 (fun hsh14 hone14 => ?_)
          refine r_heap (H' := tvec 9 1 svC v14 outs :: _) ?_ (fun _ h => h)
          refine r_qf 7 (by kernel_rfl) rfl rfl rfl rfl (fun _ => q_build (pl := [(_, _), (_, _), (_, _), (_, _), (_, _), (_, _), (_, _)]) (cs := (([.pointer (some ⟨b9, 0, none⟩), nilV, .pointer (some ⟨bf, 0, none⟩), .int .i64 1, v14, nilV, str []] : List Value)).toArray) rfl Tryz.underlying43 ti43 ⟨rfl, ⟨_, _, ti40⟩, rfl, ⟨_, _, ti23⟩, rfl, ⟨_, _, ti41⟩, rfl, ⟨_, _, ti3⟩, rfl, ⟨_, _, ti24⟩, rfl, ⟨_, _, ti24⟩, rfl, ⟨_, _, ti9⟩, trivial⟩ rfl (by obtain ⟨A, c, h⟩ := len_of hsh14; rw [h]; rfl)) ?_
          refine r_e 8 (by kernel_rfl) (by kernel_rfl) rfl (Le.refl _) rfl rfl rfl (e_box rfl rfl rfl) ?_
          rintro _ _ _ ⟨b16, rfl, rfl, rfl⟩
          refine ⟨Le.refl _, .inr SubC.sub, ?_⟩
          refine r_qf 9 (by kernel_rfl) rfl rfl rfl rfl (fun _ => q_assign rfl rfl) ?_
          refine r_end (by kernel_rfl) ?_
          refine n_cut ((b9, b16, .pointer (some ⟨bf, 0, none⟩), v14)) ?_ (sub_cons rfl sub_nil) (sub_cons rfl (sub_cons rfl (sub_cons rfl sub_nil))) (fun _ h => by try dsimp only; exact subC_st h)
          · trivial
        · skip
          refine x_e 6 rfl rfl (Le.refl _) rfl rfl rfl (e_appendSl (f := svC) (l := []) (ls := outs) rfl Tryz.underlying24 ti9 rfl rfl rfl rfl (hov) rfl (fun _ => rfl) svC_ones (by simp only [maxLen, List.length_nil]; omega) (by simp only [List.length_nil]; omega)) ?_
          rintro v14 _ _ ⟨rfl, rfl⟩
          refine ⟨Le.refl _, .inr SubC.sub, ?_⟩
          refine r_len v14 (fun hsh14 hone14 => ?_)
          refine r_heap (H' := tvec 9 1 svC v14 outs :: _) ?_ (fun _ h => h)
          refine r_e 1 (by kernel_rfl) (by kernel_rfl) rfl (Le.refl _) rfl rfl rfl (e_box rfl rfl rfl) ?_
          rintro _ _ _ ⟨b9, rfl, rfl, rfl⟩
          refine ⟨Le.refl _, .inr SubC.sub, ?_⟩
          refine r_qf 7 (by kernel_rfl) rfl rfl rfl rfl (fun _ => q_build (pl := [(_, _), (_, _), (_, _), (_, _), (_, _), (_, _), (_, _)]) (cs := (([.pointer (some ⟨b9, 0, none⟩), nilV, .pointer (some ⟨bf, 0, none⟩), .int .i64 1, v14, nilV, str []] : List Value)).toArray) rfl Tryz.underlying43 ti43 ⟨rfl, ⟨_, _, ti40⟩, rfl, ⟨_, _, ti23⟩, rfl, ⟨_, _, ti41⟩, rfl, ⟨_, _, ti3⟩, rfl, ⟨_, _, ti24⟩, rfl, ⟨_, _, ti24⟩, rfl, ⟨_, _, ti9⟩, trivial⟩ rfl (by obtain ⟨A, c, h⟩ := len_of hsh14; rw [h]; rfl)) ?_
          refine r_e 8 (by kernel_rfl) (by kernel_rfl) rfl (Le.refl _) rfl rfl rfl (e_box rfl rfl rfl) ?_
          rintro _ _ _ ⟨b16, rfl, rfl, rfl⟩
          refine ⟨Le.refl _, .inr SubC.sub, ?_⟩
          refine r_qf 9 (by kernel_rfl) rfl rfl rfl rfl (fun _ => q_assign rfl rfl) ?_
          refine r_end (by kernel_rfl) ?_
          refine n_cut ((b9, b16, .pointer (some ⟨bf, 0, none⟩), v14)) ?_ (sub_cons rfl sub_nil) (sub_cons rfl (sub_cons rfl (sub_cons rfl sub_nil))) (fun _ h => by try dsimp only; exact subC_st h)
          · trivial
    · skip
      refine x_e 3 rfl rfl (Le.refl _) rfl rfl rfl (e_buildSlice0 rfl Tryz.underlying24 ti9) ?_
      rintro v11 _ _ ⟨⟨b11, hb11⟩, rfl, rfl⟩
      refine ⟨Le.refl _, .inr SubC.sub, ?_⟩
      refine r_two 1 2 (by kernel_rfl) (by kernel_rfl) ?_ ?_
      · skip
        refine x_e 1 rfl rfl (Le.refl _) rfl rfl rfl (e_box rfl rfl rfl) ?_
        rintro _ _ _ ⟨b9, rfl, rfl, rfl⟩
        refine ⟨Le.refl _, .inr SubC.sub, ?_⟩
        refine r_e 2 (by kernel_rfl) (by kernel_rfl) rfl (Le.refl _) rfl rfl rfl (eff_call rfl rfl rfl Tryz.func24 (by kernel_rfl) rfl (fun w hw => new_calls _ _ _ w hw)) ?_
        rintro _ _ _ ⟨rfl, rfl, bf, rfl⟩
        refine ⟨Le.refl _, .inr SubC.sub, ?_⟩
        refine r_e 6 (by kernel_rfl) (by kernel_rfl) rfl (Le.refl _) rfl rfl rfl (e_appendSl (f := svC) (l := []) (ls := outs) rfl Tryz.underlying24 ti9 rfl rfl rfl rfl (hov) rfl (fun _ => rfl) svC_ones (by simp only [maxLen, List.length_nil]; omega) (by simp only [List.length_nil]; omega)) ?_
        rintro v14 _ _ ⟨rfl, rfl⟩
        refine ⟨Le.refl _, .inr SubC.sub, ?_⟩
        refine r_len v14 (fun hsh14 hone14 => ?_)
        refine r_heap (H' := tvec 9 1 svC v14 outs :: _) ?_ (fun _ h => h)
        refine r_qf 7 (by kernel_rfl) rfl rfl rfl rfl (fun _ => q_build (pl := [(_, _), (_, _), (_, _), (_, _), (_, _), (_, _), (_, _)]) (cs := (([.pointer (some ⟨b9, 0, none⟩), nilV, .pointer (some ⟨bf, 0, none⟩), .int .i64 1, v14, nilV, str []] : List Value)).toArray) rfl Tryz.underlying43 ti43 ⟨rfl, ⟨_, _, ti40⟩, rfl, ⟨_, _, ti23⟩, rfl, ⟨_, _, ti41⟩, rfl, ⟨_, _, ti3⟩, rfl, ⟨_, _, ti24⟩, rfl, ⟨_, _, ti24⟩, rfl, ⟨_, _, ti9⟩, trivial⟩ rfl (by obtain ⟨A, c, h⟩ := len_of hsh14; rw [h]; rfl)) ?_
        refine r_e 8 (by kernel_rfl) (by kernel_rfl) rfl (Le.refl _) rfl rfl rfl (e_box rfl rfl rfl) ?_
        rintro _ _ _ ⟨b16, rfl, rfl, rfl⟩
        refine ⟨Le.refl _, .inr SubC.sub, ?_⟩
        refine r_qf 9 (by kernel_rfl) rfl rfl rfl rfl (fun _ => q_assign rfl rfl) ?_
        refine r_end (by kernel_rfl) ?_
        refine n_cut ((b9, b16, .pointer (some ⟨bf, 0, none⟩), v14)) ?_ (sub_cons rfl sub_nil) (sub_cons rfl (sub_cons rfl (sub_cons rfl sub_nil))) (fun _ h => by try dsimp only; exact subC_st h)
        · trivial
      · skip
        refine x_e 2 rfl rfl (Le.refl _) rfl rfl rfl (eff_call rfl rfl rfl Tryz.func24 (by kernel_rfl) rfl (fun w hw => new_calls _ _ _ w hw)) ?_
        rintro _ _ _ ⟨rfl, rfl, bf, rfl⟩
        refine ⟨Le.refl _, .inr SubC.sub, ?_⟩
        refine r_two 1 6 (by kernel_rfl) (by kernel_rfl) ?_ ?_
        · skip
          refine x_e 1 rfl rfl (Le.refl _) rfl rfl rfl (e_box rfl rfl rfl) ?_
          rintro _ _ _ ⟨b9, rfl, rfl, rfl⟩
          refine ⟨Le.refl _, .inr SubC.sub, ?_⟩
          refine r_e 6 (by kernel_rfl) (by kernel_rfl) rfl (Le.refl _) rfl rfl rfl (e_appendSl (f := svC) (l := []) (ls := outs) rfl Tryz.underlying24 ti9 rfl rfl rfl rfl (hov) rfl (fun _ => rfl) svC_ones (by simp only [maxLen, List.length_nil]; omega) (by simp only [List.length_nil]; omega)) ?_
          rintro v14 _ _ ⟨rfl, rfl⟩
          refine ⟨Le.refl _, .inr SubC.sub, ?_⟩
          refine r_len v14 (fun hsh14 hone14 => ?_)
          refine r_heap (H' := tvec 9 1 svC v14 outs :: _) ?_ (fun _ h => h)
          refine r_qf 7 (by kernel_rfl) rfl rfl rfl rfl (fun _ => q_build (pl := [(_, _), (_, _), (_, _), (_, _), (_, _), (_, _), (_, _)]) (cs := (([.pointer (some ⟨b9, 0, none⟩), nilV, .pointer (some ⟨bf, 0, none⟩), .int .i64 1, v14, nilV, str []] : List Value)).toArray) rfl Tryz.underlying43 ti43 ⟨rfl, ⟨_, _, ti40⟩, rfl, ⟨_, _, ti23⟩, rfl, ⟨_, _, ti41⟩, rfl, ⟨_, _, ti3⟩, rfl, ⟨_, _, ti24⟩, rfl, ⟨_, _, ti24⟩, rfl, ⟨_, _, ti9⟩, trivial⟩ rfl (by obtain ⟨A, c, h⟩ := len_of hsh14; rw [h]; rfl)) ?_
          refine r_e 8 (by kernel_rfl) (by kernel_rfl) rfl (Le.refl _) rfl rfl rfl (e_box rfl rfl rfl) ?_
          rintro _ _ _ ⟨b16, rfl, rfl, rfl⟩
          refine ⟨Le.refl _, .inr SubC.sub, ?_⟩
          refine r_qf 9 (by kernel_rfl) rfl rfl rfl rfl (fun _ => q_assign rfl rfl) ?_
          refine r_end (by kernel_rfl) ?_
          refine n_cut ((b9, b16, .pointer (some ⟨bf, 0, none⟩), v14)) ?_ (sub_cons rfl sub_nil) (sub_cons rfl (sub_cons rfl (sub_cons rfl sub_nil))) (fun _ h => by try dsimp only; exact subC_st h)
          · trivial
        · skip
          refine x_e 6 rfl rfl (Le.refl _) rfl rfl rfl (e_appendSl (f := svC) (l := []) (ls := outs) rfl Tryz.underlying24 ti9 rfl rfl rfl rfl (hov) rfl (fun _ => rfl) svC_ones (by simp only [maxLen, List.length_nil]; omega) (by simp only [List.length_nil]; omega)) ?_
          rintro v14 _ _ ⟨rfl, rfl⟩
          refine ⟨Le.refl _, .inr SubC.sub, ?_⟩
          refine r_len v14 (fun hsh14 hone14 => ?_)
          refine r_heap (H' := tvec 9 1 svC v14 outs :: _) ?_ (fun _ h => h)
          refine r_e 1 (by kernel_rfl) (by kernel_rfl) rfl (Le.refl _) rfl rfl rfl (e_box rfl rfl rfl) ?_
          rintro _ _ _ ⟨b9, rfl, rfl, rfl⟩
          refine ⟨Le.refl _, .inr SubC.sub, ?_⟩
          refine r_qf 7 (by kernel_rfl) rfl rfl rfl rfl (fun _ => q_build (pl := [(_, _), (_, _), (_, _), (_, _), (_, _), (_, _), (_, _)]) (cs := (([.pointer (some ⟨b9, 0, none⟩), nilV, .pointer (some ⟨bf, 0, none⟩), .int .i64 1, v14, nilV, str []] : List Value)).toArray) rfl Tryz.underlying43 ti43 ⟨rfl, ⟨_, _, ti40⟩, rfl, ⟨_, _, ti23⟩, rfl, ⟨_, _, ti41⟩, rfl, ⟨_, _, ti3⟩, rfl, ⟨_, _, ti24⟩, rfl, ⟨_, _, ti24⟩, rfl, ⟨_, _, ti9⟩, trivial⟩ rfl (by obtain ⟨A, c, h⟩ := len_of hsh14; rw [h]; rfl)) ?_
          refine r_e 8 (by kernel_rfl) (by kernel_rfl) rfl (Le.refl _) rfl rfl rfl (e_box rfl rfl rfl) ?_
          rintro _ _ _ ⟨b16, rfl, rfl, rfl⟩
          refine ⟨Le.refl _, .inr SubC.sub, ?_⟩
          refine r_qf 9 (by kernel_rfl) rfl rfl rfl rfl (fun _ => q_assign rfl rfl) ?_
          refine r_end (by kernel_rfl) ?_
          refine n_cut ((b9, b16, .pointer (some ⟨bf, 0, none⟩), v14)) ?_ (sub_cons rfl sub_nil) (sub_cons rfl (sub_cons rfl (sub_cons rfl sub_nil))) (fun _ h => by try dsimp only; exact subC_st h)
          · trivial
  rintro ⟨vb, eb, fv, ov'⟩ _
  try dsimp only at *
  refine t_seq ?_
  refine t_seq ?_
  refine t_region ?_
  refine l_q rfl rfl rfl (q_fieldAddr rfl Tryz.underlying26 rfl rfl ti23 rfl rfl) ?_
  refine l_q rfl rfl rfl (q_load_row rfl Tryz.underlying23 rfl rfl (by rfl)) ?_
  refine l_q rfl rfl rfl ((by first | exact q_lenV rfl Tryz.underlying23 rfl | exact q_len rfl Tryz.underlying23 rfl (⟨none, 0, rfl⟩) | exact q_len rfl Tryz.underlying23 rfl (Sl.lenOf hvv (List.length_map _)))) ?_
  refine l_q rfl rfl rfl (q_move rfl rfl) ?_
  refine l_nil ?_
  refine n_then ?_
  refine t_block ?_
  refine t_loopE (ι := Nat × List Vr × Value × Look) (fun zz => zz.1 ≤ vars.length ∧ Le I zz.2.2.2 ∧ Sl zz.2.2.2 5 zz.2.2.1 (zz.2.1.map vrC) ∧ zz.2.1.length ≤ 64 ∧ zz.2.1 = layV (vars.take zz.1)) (fun zz => vars.length - zz.1) (fun zz => [(20, .int .i64 (zz.1 : Int))]) [(3, _), (0, _), (1, _), (2, _), (18, _), (19, _)] (fun zz => zz.2.2.2) (fun zz => (row vb 65 [zz.2.2.1, nilV] :: row eb 43 [.pointer (some ⟨vb, 0, none⟩), nilV, fv, .int .i64 1, ov', nilV, str []] :: tvec 9 1 svC ov' outs :: row b1 26 [vv, sv, ov, nilV] :: F)) (0, [], nilV, I) ?_ (sub_cons rfl sub_nil) (sub_cons rfl (sub_cons rfl (sub_cons rfl (sub_cons rfl (sub_cons rfl (sub_cons rfl sub_nil)))))) (fun _ h => subC_st h) ?_
  · try dsimp only
    exact ⟨Nat.zero_le _, Le.refl _, sl_nilT, Nat.zero_le _, rfl⟩
  rintro ⟨i, l, lv, J⟩ ⟨hi, hJ, hlv, hl64, hle⟩
  try dsimp only at *
  refine t_seq ?_
  refine t_region ?_
  refine l_q rfl rfl rfl (q_lss rfl rfl rfl) ?_
  refine l_nil ?_
  refine n_then ?_
  refine t_seq ?_
  refine t_cond rfl (fun hc0 => ?_) (fun hc0 => ?_)
  · skip
    have hil : i < vars.length := by have := of_decide_eq_true hc0; omega
    refine t_skip ?_
    refine n_then ?_
    refine t_seq ?_
    refine t_block ?_
    refine t_seq ?_
    refine t_region ?_
    refine l_q rfl rfl rfl ((by first | exact q_indexAddrVN rfl Tryz.underlying23 ti28 rfl rfl (by omega) | exact q_indexAddrN rfl Tryz.underlying23 ti28 rfl rfl (Sl.shape hvv (List.length_map _)) (by omega) | exact q_indexAddrV rfl Tryz.underlying23 ti28 rfl rfl (by omega) | exact q_indexAddr rfl Tryz.underlying23 ti28 rfl rfl (Sl.shape hvv (List.length_map _)) (by omega))) ?_
    refine l_q rfl rfl rfl ((by first | exact q_load_rowA rfl Tryz.underlying28 ti28 rfl rfl rfl | exact q_load_agg rfl Tryz.underlying28 ti28 rfl rfl (rds_vr (i := i) (hvv.mono hJ) (by omega)))) ?_
    refine l_e rfl rfl rfl (e_alloc rfl ti28 rfl) ?_
    rintro _ _ _ ⟨b5, rfl, rfl, rfl⟩
    refine l_e0 rfl rfl ((by first | exact e_store_all rfl ti28 rfl rfl rfl (by first | exact chC_ones _ | exact pcC_ones _ | exact vrC_ones _ | simp [Value.oneCell', str, u8]) rfl | exact e_store_agg rfl ti28 rfl rfl rfl (by first | exact chC_ones _ | exact pcC_ones _ | exact vrC_ones _ | simp [Value.oneCell', str, u8]) rfl)) ?_
    rintro _ _ _ ⟨rfl, rfl⟩
    refine l_heap (H' := row b5 28 (vrC (nth vars i vr0)) :: _) ?_ (fun _ h => h)
    refine l_nil ?_
    refine n_then ?_
    refine t_cutE (ι := Value × List Vr × Look) (fun zz => Le J zz.2.2 ∧ Sl zz.2.2 5 zz.1 (zz.2.1.map vrC) ∧ zz.2.1.length ≤ 64 ∧ zz.2.1 = if (nth vars i vr0).u = true then l else (setN l (nth vars i vr0).name (nth vars i vr0).value).2) (fun zz => []) [(20, _), (3, _), (0, _), (1, _), (2, _), (18, _), (19, _), (21, _), (5, _)] (fun zz => zz.2.2) (fun zz => (row vb 65 [zz.1, nilV] :: row b5 28 (vrC (nth vars i vr0)) :: row eb 43 [.pointer (some ⟨vb, 0, none⟩), nilV, fv, .int .i64 1, ov', nilV, str []] :: tvec 9 1 svC ov' outs :: row b1 26 [vv, sv, ov, nilV] :: F)) (sub_cons rfl (sub_cons rfl (sub_cons rfl (sub_cons rfl (sub_cons rfl (sub_cons rfl (sub_cons rfl (sub_cons rfl (sub_cons rfl sub_nil))))))))) ?_ ?_
    · skip
      refine t_seq ?_
      refine t_region ?_
      refine l_q rfl rfl rfl (q_fieldAddr rfl Tryz.underlying28 rfl rfl ti4 rfl rfl) ?_
      refine l_q rfl rfl rfl (q_load_row rfl Tryz.underlying4 rfl rfl (by rfl)) ?_
      refine l_q rfl rfl rfl (q_not rfl rfl) ?_
      refine l_nil ?_
      refine n_then ?_
      refine t_cond rfl (fun hc1 => ?_) (fun hc1 => ?_)
      · skip
        simp only [Bool.not_eq_true', Bool.not_eq_false'] at hc1
        refine t_draw [8] [8] [row b5 28 (vrC (nth vars i vr0)), row eb 43 [.pointer (some ⟨vb, 0, none⟩), nilV, fv, .int .i64 1, ov', nilV, str []]] mo (by kernel_rfl) (fun _ _ _ _ _ h => h) ?_
        refine r_q1 0 (by kernel_rfl) rfl (Le.refl _) rfl rfl rfl (q_move rfl rfl) ?_
        refine r_q1 1 (by kernel_rfl) rfl (Le.refl _) rfl rfl rfl (q_nilCheck rfl rfl) ?_
        refine r_q1 2 (by kernel_rfl) rfl (Le.refl _) rfl rfl rfl (q_fieldAddr rfl Tryz.underlying43 rfl rfl ti40 rfl rfl) ?_
        refine r_q1 3 (by kernel_rfl) rfl (Le.refl _) rfl rfl rfl (q_load_row rfl Tryz.underlying40 rfl rfl (by rfl)) ?_
        refine r_q1 4 (by kernel_rfl) rfl (Le.refl _) rfl rfl rfl (q_fieldAddr rfl Tryz.underlying28 rfl rfl ti9 rfl rfl) ?_
        refine r_q1 5 (by kernel_rfl) rfl (Le.refl _) rfl rfl rfl (q_load_row rfl Tryz.underlying9 rfl rfl (by rfl)) ?_
        refine r_q1 6 (by kernel_rfl) rfl (Le.refl _) rfl rfl rfl (q_fieldAddr rfl Tryz.underlying28 rfl rfl ti9 rfl rfl) ?_
        refine r_q1 7 (by kernel_rfl) rfl (Le.refl _) rfl rfl rfl (q_load_row rfl Tryz.underlying9 rfl rfl (by rfl)) ?_
        refine r_e 8 (by kernel_rfl) (by kernel_rfl) rfl (Le.refl _) rfl rfl rfl (eff_call rfl rfl rfl Tryz.func25 (by kernel_rfl) rfl (fun w hw => setv_calls vb l (nth vars i vr0).name (nth vars i vr0).value lv nilV one_nilV hl64 (hvn _ (nth_mem hil)) J hlv (row b5 28 (vrC (nth vars i vr0)) :: row eb 43 [.pointer (some ⟨vb, 0, none⟩), nilV, fv, .int .i64 1, ov', nilV, str []] :: tvec 9 1 svC ov' outs :: row b1 26 [vv, sv, ov, nilV] :: F) _ w (picks_st5 (row vb 65 [lv, nilV]) (row b5 28 (vrC (nth vars i vr0))) (row eb 43 [.pointer (some ⟨vb, 0, none⟩), nilV, fv, .int .i64 1, ov', nilV, str []]) (tvec 9 1 svC ov' outs) (row b1 26 [vv, sv, ov, nilV]) hw))) ?_
        rintro _ J35 _ ⟨hJ35, rfl, lv35, rfl, hlv35⟩
        refine ⟨hJ35, .inl rfl, ?_⟩
        refine r_end (by kernel_rfl) ?_
        refine n_cut ((lv35, (setN l (nth vars i vr0).name (nth vars i vr0).value).2, J35)) ?_ (sub_nil) (sub_cons rfl (sub_cons rfl (sub_cons rfl (sub_cons rfl (sub_cons rfl (sub_cons rfl (sub_cons rfl (sub_cons rfl (sub_cons rfl sub_nil))))))))) (fun _ h => by try dsimp only; exact subC_st h)
        · try dsimp only
          exact ⟨hJ35, hlv35, setN_len hl64, by rw [if_neg (by rw [hc1]; simp)]⟩
      · skip
        simp only [Bool.not_eq_true', Bool.not_eq_false'] at hc1
        refine t_skip ?_
        refine n_cut ((lv, l, J)) ?_ (sub_nil) (sub_cons rfl (sub_cons rfl (sub_cons rfl (sub_cons rfl (sub_cons rfl (sub_cons rfl (sub_cons rfl (sub_cons rfl (sub_cons rfl sub_nil))))))))) (fun _ h => by try dsimp only; exact subC_st h)
        · try dsimp only
          exact ⟨Le.refl _, hlv, hl64, by rw [if_pos hc1]⟩
    rintro ⟨lv1, l1, J1⟩ ⟨hJ1, hlv1, hl1, hl1e⟩
    try dsimp only at *
    refine t_draw [10] [10] [row b5 28 (vrC (nth vars i vr0)), row eb 43 [.pointer (some ⟨vb, 0, none⟩), nilV, fv, .int .i64 1, ov', nilV, str []]] mo (by kernel_rfl) (fun _ _ _ _ _ h => h) ?_
    refine r_q1 0 (by kernel_rfl) rfl (Le.refl _) rfl rfl rfl (q_move rfl rfl) ?_
    refine r_q1 1 (by kernel_rfl) rfl (Le.refl _) rfl rfl rfl (q_nilCheck rfl rfl) ?_
    refine r_q1 2 (by kernel_rfl) rfl (Le.refl _) rfl rfl rfl (q_fieldAddr rfl Tryz.underlying43 rfl rfl ti40 rfl rfl) ?_
    refine r_q1 3 (by kernel_rfl) rfl (Le.refl _) rfl rfl rfl (q_load_row rfl Tryz.underlying40 rfl rfl (by rfl)) ?_
    refine r_q1 4 (by kernel_rfl) rfl (Le.refl _) rfl rfl rfl (q_fieldAddr rfl Tryz.underlying28 rfl rfl ti9 rfl rfl) ?_
    refine r_q1 5 (by kernel_rfl) rfl (Le.refl _) rfl rfl rfl (q_load_row rfl Tryz.underlying9 rfl rfl (by rfl)) ?_
    refine r_q1 6 (by kernel_rfl) rfl (Le.refl _) rfl rfl rfl (q_fieldAddr rfl Tryz.underlying28 rfl rfl ti4 rfl rfl) ?_
    refine r_q1 7 (by kernel_rfl) rfl (Le.refl _) rfl rfl rfl (q_load_row rfl Tryz.underlying4 rfl rfl (by rfl)) ?_
    refine r_q1 8 (by kernel_rfl) rfl (Le.refl _) rfl rfl rfl (q_fieldAddr rfl Tryz.underlying28 rfl rfl ti4 rfl rfl) ?_
    refine r_q1 9 (by kernel_rfl) rfl (Le.refl _) rfl rfl rfl (q_load_row rfl Tryz.underlying4 rfl rfl (by rfl)) ?_
    refine r_e 10 (by kernel_rfl) (by kernel_rfl) rfl (Le.refl _) rfl rfl rfl (eff_call rfl rfl rfl Tryz.func26 (by kernel_rfl) rfl (fun w hw => mark_calls vb l1 (nth vars i vr0).name (nth vars i vr0).e (nth vars i vr0).r lv1 nilV one_nilV hl1 (hvn _ (nth_mem hil)) J1 hlv1 (row b5 28 (vrC (nth vars i vr0)) :: row eb 43 [.pointer (some ⟨vb, 0, none⟩), nilV, fv, .int .i64 1, ov', nilV, str []] :: tvec 9 1 svC ov' outs :: row b1 26 [vv, sv, ov, nilV] :: F) _ w (picks_st5 (row vb 65 [lv1, nilV]) (row b5 28 (vrC (nth vars i vr0))) (row eb 43 [.pointer (some ⟨vb, 0, none⟩), nilV, fv, .int .i64 1, ov', nilV, str []]) (tvec 9 1 svC ov' outs) (row b1 26 [vv, sv, ov, nilV]) hw))) ?_
    rintro _ J46 _ ⟨hJ46, ⟨r46, rfl⟩, lv46, rfl, hlv46⟩
    refine ⟨hJ46, .inl rfl, ?_⟩
    refine r_end (by kernel_rfl) ?_
    refine n_block ?_
    refine n_then ?_
    refine t_region ?_
    refine l_q rfl rfl rfl (q_add64 rfl rfl rfl (by omega)) ?_
    refine l_q rfl rfl rfl (q_move rfl rfl) ?_
    refine l_nil ?_
    refine n_roundE ((i + 1, markN l1 (nth vars i vr0).name (nth vars i vr0).e (nth vars i vr0).r, lv46, J46)) ?_ ?_ (sub_cons rfl sub_nil) (sub_cons rfl (sub_cons rfl (sub_cons rfl (sub_cons rfl (sub_cons rfl (sub_cons rfl sub_nil)))))) (fun _ h => by try dsimp only; exact subC_st h)
    · try dsimp only
      exact ⟨by omega, hJ.trans (hJ1.trans hJ46), hlv46, markN_len hl1, by rw [layV_snoc hil, ← hle, ← hl1e]⟩
    · try dsimp only
      show vars.length - (i + 1) < vars.length - i
      omega
  · skip
    have hil : i = vars.length := by have := of_decide_eq_false hc0; omega
    rw [hil, List.take_length] at hle
    subst hle
    refine t_exit ?_
    refine n_exit_then ?_
    refine n_exit_then ?_
    refine n_exit_block ?_
    refine n_then ?_
    refine t_seq ?_
    refine t_draw [6] [6] [row eb 43 [.pointer (some ⟨vb, 0, none⟩), nilV, fv, .int .i64 1, ov', nilV, str []], row b1 26 [vv, sv, ov, nilV]] mo (by kernel_rfl) (fun _ _ _ _ _ h => h) ?_
    refine r_q1 0 (by kernel_rfl) rfl (Le.refl _) rfl rfl rfl (q_move rfl rfl) ?_
    refine r_q1 1 (by kernel_rfl) rfl (Le.refl _) rfl rfl rfl (q_nilCheck rfl rfl) ?_
    refine r_q1 2 (by kernel_rfl) rfl (Le.refl _) rfl rfl rfl (q_fieldAddr rfl Tryz.underlying43 rfl rfl ti40 rfl rfl) ?_
    refine r_q1 3 (by kernel_rfl) rfl (Le.refl _) rfl rfl rfl (q_load_row rfl Tryz.underlying40 rfl rfl (by rfl)) ?_
    refine r_q1 4 (by kernel_rfl) rfl (Le.refl _) rfl rfl rfl (q_fieldAddr rfl Tryz.underlying26 rfl rfl ti24 rfl rfl) ?_
    refine r_q1 5 (by kernel_rfl) rfl (Le.refl _) rfl rfl rfl (q_load_row rfl Tryz.underlying24 rfl rfl (by rfl)) ?_
    refine r_e 6 (by kernel_rfl) (by kernel_rfl) rfl (Le.refl _) rfl rfl rfl (eff_call rfl rfl rfl Tryz.func27 (by kernel_rfl) rfl (fun w hw => setArgs_calls vb al lv sv J (hsv.mono hJ) (row eb 43 [.pointer (some ⟨vb, 0, none⟩), nilV, fv, .int .i64 1, ov', nilV, str []] :: tvec 9 1 svC ov' outs :: row b1 26 [vv, sv, ov, nilV] :: F) _ w (picks_st4 (row vb 65 [lv, nilV]) (row eb 43 [.pointer (some ⟨vb, 0, none⟩), nilV, fv, .int .i64 1, ov', nilV, str []]) (tvec 9 1 svC ov' outs) (row b1 26 [vv, sv, ov, nilV]) hw))) ?_
    rintro _ J54 _ ⟨hJ54, ⟨r54, rfl⟩, av54, rfl, hav54⟩
    refine ⟨hJ54, .inl rfl, ?_⟩
    refine r_end (by kernel_rfl) ?_
    refine n_then ?_
    refine t_seq ?_
    refine t_region ?_
    refine l_q rfl rfl rfl (q_move rfl rfl) ?_
    refine l_q rfl rfl rfl (q_build (pl := [(_, _), (_, _), (_, _), (_, _), (_, _)]) (cs := #[_, _, _, _, _]) rfl Tryz.underlying28 ti28 ⟨rfl, ⟨_, _, ti9⟩, rfl, ⟨_, _, ti9⟩, rfl, ⟨_, _, ti4⟩, rfl, ⟨_, _, ti4⟩, rfl, ⟨_, _, ti4⟩, trivial⟩ rfl rfl) ?_
    refine l_q rfl rfl rfl (q_build (pl := [(_, _), (_, _), (_, _), (_, _), (_, _)]) (cs := #[_, _, _, _, _]) rfl Tryz.underlying28 ti28 ⟨rfl, ⟨_, _, ti9⟩, rfl, ⟨_, _, ti9⟩, rfl, ⟨_, _, ti4⟩, rfl, ⟨_, _, ti4⟩, rfl, ⟨_, _, ti4⟩, trivial⟩ rfl rfl) ?_
    refine l_q rfl rfl rfl (q_build (pl := [(_, _), (_, _), (_, _), (_, _), (_, _)]) (cs := #[_, _, _, _, _]) rfl Tryz.underlying28 ti28 ⟨rfl, ⟨_, _, ti9⟩, rfl, ⟨_, _, ti9⟩, rfl, ⟨_, _, ti4⟩, rfl, ⟨_, _, ti4⟩, rfl, ⟨_, _, ti4⟩, trivial⟩ rfl rfl) ?_
    refine l_e rfl rfl rfl (e_buildSliceN (vs := [_, _, _]) (css := [vrC ⟨[63], [48], false, false, false⟩, vrC ⟨[36], [50], false, false, false⟩, vrC ⟨[48], shyS, false, false, false⟩]) rfl Tryz.underlying23 ti28 rfl rfl rfl rfl (rfl) (by simp [vrC])) ?_
    rintro _ _ _ ⟨b59, rfl, rfl, rfl⟩
    refine l_freezeRow b59 (fun J59 hJ59 hk59 => ?_)
    have hsp := sl_row (f := vrC) (sz := 5) specL hk59 rfl rfl (fun _ => rfl)
    refine l_q rfl rfl rfl (q_nilCheck rfl rfl) ?_
    refine l_q rfl rfl rfl (q_fieldAddr rfl Tryz.underlying43 rfl rfl ti23 rfl rfl) ?_
    refine l_e0 rfl rfl (e_storeS rfl ti23 rfl rfl (by first | exact ⟨rfl, rfl⟩ | assumption | exact hvv.one | exact hsv.one | exact hov.one) rfl (by first | (simp only [List.set_cons_succ, List.set_cons_zero]; rfl) | rfl)) ?_
    rintro _ _ _ ⟨rfl, rfl⟩
    refine l_heap (H' := row eb 43 [.pointer (some ⟨vb, 0, none⟩), .slice (some ⟨b59, 0, none⟩) 3 3, fv, .int .i64 1, ov', nilV, str []] :: _) ?_ (fun _ h => h)
    refine l_nil ?_
    refine n_then ?_
    refine t_seq ?_
    refine t_seq ?_
    refine t_region ?_
    refine l_q rfl rfl rfl (q_fieldAddr rfl Tryz.underlying26 rfl rfl ti24 rfl rfl) ?_
    refine l_q rfl rfl rfl (q_load_row rfl Tryz.underlying24 rfl rfl (by rfl)) ?_
    refine l_q rfl rfl rfl ((by first | exact q_lenV rfl Tryz.underlying24 rfl | exact q_len rfl Tryz.underlying24 rfl (⟨none, 0, rfl⟩) | exact q_len rfl Tryz.underlying24 rfl (Sl.lenOf hvv (List.length_map _)))) ?_
    refine l_q rfl rfl rfl (q_move rfl rfl) ?_
    refine l_nil ?_
    refine n_then ?_
    refine t_block ?_
    refine t_loopE (ι := Unit) (fun _ => True) (fun _ => 0) (fun _ => [(65, .int .i64 0)]) [(20, _), (3, _), (0, _), (1, _), (2, _), (18, _), (19, _), (21, _), (63, _), (64, _)] (fun _ => J59) (fun _ => (row vb 65 [lv, av54] :: row eb 43 [.pointer (some ⟨vb, 0, none⟩), .slice (some ⟨b59, 0, none⟩) 3 3, fv, .int .i64 1, ov', nilV, str []] :: tvec 9 1 svC ov' outs :: F)) () ?_ (sub_cons rfl sub_nil) (sub_cons rfl (sub_cons rfl (sub_cons rfl (sub_cons rfl (sub_cons rfl (sub_cons rfl (sub_cons rfl (sub_cons rfl (sub_cons rfl (sub_cons rfl sub_nil)))))))))) (fun _ h => subC_st h) ?_
    · try dsimp only
      skip
    rintro _ _
    refine t_seq ?_
    refine t_region ?_
    refine l_q rfl rfl rfl (q_lss rfl rfl rfl) ?_
    refine l_nil ?_
    refine n_then ?_
    refine t_seq ?_
    refine t_cond rfl (fun hc2 => ?_) (fun hc2 => ?_)
    · skip
      exact absurd hc2 (by decide)
    · skip
      refine t_exit ?_
      refine n_exit_then ?_
      refine n_exit_then ?_
      refine n_exit_block ?_
      refine n_then ?_
      refine t_seq ?_
      refine t_freezeT (f := svC) (l := outs) ov' (fun _ => rfl) (fun Jf hJf hof => ?_)
      refine t_region ?_
      refine l_q rfl rfl rfl (q_move rfl rfl) ?_
      refine l_q rfl rfl rfl (q_assign rfl rfl) ?_
      refine l_nil ?_
      refine n_then ?_
      refine t_ret ?_
      refine n_ret1 rfl rfl (fun w' hw => ?_)
      -- leaf 0
      exact ⟨_, rfl, Jf, _, ⟨hJ.trans (hJ54.trans (hJ59.trans hJf)), ⟨0, eb, vb, fv, .slice (some ⟨b59, 0, none⟩) 3 3, ov', av54⟩, lv, rfl, rfl, ⟨hsp.mono hJf, hof, hlv.mono (hJ54.trans (hJ59.trans hJf)), hav54.mono (hJ59.trans hJf), hon, argsN_len al, hl64⟩⟩, subC_st (H' := row eb 43 [.pointer (some ⟨vb, 0, none⟩), .slice (some ⟨b59, 0, none⟩) 3 3, fv, .int .i64 1, ov', nilV, str []] :: row vb 65 [lv, av54] :: F) hw⟩
end Go.Tri
