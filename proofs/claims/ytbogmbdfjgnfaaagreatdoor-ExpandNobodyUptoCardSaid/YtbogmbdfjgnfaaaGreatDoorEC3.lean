/-
  A scene is laid.
-/
import Derived.Test.YtbogmbdfjgnfaaaGreatDoorEC2
import Derived.Test.YtbogmbdfjgnfaaaGreatDoorPEx
namespace Go.Tri
open Go.Proofs Go.RowKit
/-- where a host's things lie -/
structure HP where
  hb : Nat
  eb : Nat
  vb : Nat
  fv : Value
  sv : Value
  ov : Value
  gv : Value
def envC (p : HP) (av : Value) : List Value := [.pointer (some ⟨p.vb, 0, none⟩), p.sv, p.fv, .int .i64 1, p.ov, av, str []]
def specL : List Vr := [⟨[63], [48], false, false, false⟩, ⟨[36], [50], false, false, false⟩, ⟨[48], shyS, false, false, false⟩]
def varL (x : Option (List UInt8)) : List Vr := match x with | none => [] | some v => [⟨[120], v, false, false, false⟩]
theorem varL_le (x : Option (List UInt8)) : (varL x).length ≤ 1 := by cases x <;> simp [varL]
structure HostI (I : Look) (p : HP) (lv : Value) (h : Hx) : Prop where
  sp : Sl I 5 p.sv (specL.map vrC)
  ou : Sl I 1 p.ov (h.outs.map svC)
  li : Sl I 5 lv ((varL h.x).map vrC)
  nl : h.x = none → lv = nilV
  on : h.outs.length ≤ 1000
  gv : One p.gv
theorem HostI.mono {I J : Look} {p : HP} {lv : Value} {h : Hx} (k : HostI I p lv h) (hle : Le I J) : HostI J p lv h := ⟨k.sp.mono hle, k.ou.mono hle, k.li.mono hle, k.nl, k.on, k.gv⟩
theorem varL_in {x : Option (List UInt8)} {i : Nat} (h : i < (varL x).length) : ∃ v, x = some v ∧ i = 0 := by
  cases x with
  | none => cases h
  | some v => exact ⟨v, rfl, by simp [varL] at h; exact h⟩
set_option maxRecDepth 10000 in
theorem set_calls (x : Option (List UInt8)) (outs : List (List UInt8)) (vv ov : Value) (hx : ∀ v, x = some v → v.length ≤ 65536) (hon : outs.length ≤ 1000) (I : Look) (hvv : Sl I 5 vv ((varL x).map vrC)) (hov : Sl I 1 ov (outs.map svC)) (F : List HA) (w0 w : World) (hw0 : St w0 I F w) : Calls Tryz.prog 11 [.agg #[vv, nilV, ov, nilV]].toArray w (fun e w' => ∃ v, e = .returned v ∧ ∃ I' H', (Le I I' ∧ ∃ p lv, v = .pointer (some ⟨p.eb, 0, none⟩) ∧ H' = row p.eb 43 (envC p nilV) :: row p.vb 65 [lv, p.gv] :: F ∧ HostI I' p lv ⟨x, outs, []⟩) ∧ St w I' H' w') := by
  refine enter Tryz.func11 rfl Tryz.ntmps11 rfl (hw0.self) ?_
  refine t_seq ?_
  refine t_region ?_
  refine l_e rfl rfl rfl (e_box rfl rfl rfl) ?_
  rintro _ _ _ ⟨b1, rfl, rfl, rfl⟩
  refine l_q rfl rfl rfl (q_assign rfl rfl) ?_
  refine l_nil ?_
  refine n_then ?_
  refine t_cutE (ι := Nat × Nat × Value × Value) (fun zz => True) (fun zz => [(3, .pointer (some ⟨zz.2.1, 0, none⟩))]) [(0, _), (1, _), (2, _)] (fun zz => I) (fun zz => (row zz.1 65 [nilV, nilV] :: row zz.2.1 43 [.pointer (some ⟨zz.1, 0, none⟩), nilV, zz.2.2.1, .int .i64 1, zz.2.2.2, nilV, str []] :: tvec 9 1 svC zz.2.2.2 outs :: row b1 26 [vv, nilV, ov, nilV] :: F)) (sub_cons rfl (sub_cons rfl (sub_cons rfl sub_nil))) ?_ ?_
  · skip
    refine t_draw [1, 2, 3, 6, 8] [] [row b1 26 [vv, nilV, ov, nilV]] mo (by kernel_rfl) (fun _ _ _ _ _ h => h) ?_
    refine r_qf 0 (by kernel_rfl) rfl rfl rfl rfl (fun _ => by exact q_build (pl := [(_, _), (_, _)]) (cs := ([nilV, nilV] : List Value).toArray) rfl Tryz.underlying65 ti65 ⟨rfl, ⟨_, _, ti23⟩, rfl, ⟨_, _, ti24⟩, trivial⟩ rfl rfl) ?_
    refine r_qf 4 (by kernel_rfl) rfl rfl rfl rfl (fun _ => q_fieldAddr rfl Tryz.underlying26 rfl rfl ti24 rfl rfl) ?_
    refine r_q0 5 (by kernel_rfl) rfl (Le.refl _) rfl rfl rfl (fun _ hI => q_load_row rfl Tryz.underlying24 rfl rfl (by rfl)) ?_
    refine r_three 1 2 3 (by kernel_rfl) (by kernel_rfl) ?_ ?_ ?_
    · skip
      refine x_e 1 rfl rfl (Le.refl _) rfl rfl rfl (e_box rfl rfl rfl) ?_
      rintro _ _ _ ⟨b9, rfl, rfl, rfl⟩
      refine ⟨Le.refl _, .inr SubC.sub, ?_⟩
      refine r_two 2 3 (by kernel_rfl) (by kernel_rfl) ?_ ?_
      · skip
        refine x_e 2 rfl rfl (Le.refl _) rfl rfl rfl (eff_call rfl rfl rfl Tryz.func24 (by kernel_rfl) rfl (fun w hw => new_calls _ _ _ w hw)) ?_
        rintro _ _ _ ⟨rfl, rfl, bf, rfl⟩
        refine ⟨Le.refl _, .inr SubC.sub, ?_⟩
        refine r_e 3 (by kernel_rfl) (by kernel_rfl) rfl (Le.refl _) rfl rfl rfl (e_buildSlice0 rfl Tryz.underlying24 ti9) ?_
        rintro v11 _ _ ⟨⟨b11, hb11⟩, rfl, rfl⟩
        refine ⟨Le.refl _, .inr SubC.sub, ?_⟩
        refine r_e 6 (by kernel_rfl) (by kernel_rfl) rfl (Le.refl _) rfl rfl rfl (e_appendSl (f := svC) (l := []) (ls := outs) rfl Tryz.underlying24 ti9 rfl rfl rfl rfl (hov) rfl (fun _ => rfl) svC_ones (by simp only [maxLen, List.length_nil]; omega) (by simp only [List.length_nil]; omega)) ?_
        rintro v14 _ _ ⟨rfl, rfl⟩
        refine ⟨Le.refl _, .inr SubC.sub, ?_⟩
        refine r_len v14 (fun hsh14 hone14 => ?_)
        refine r_heap (H' := tvec 9 1 svC v14 outs :: _) ?_ (fun _ h => h)
        refine r_qf 7 (by kernel_rfl) rfl rfl rfl rfl (fun _ => q_build (pl := [(_, _), (_, _), (_, _), (_, _), (_, _), (_, _), (_, _)]) (cs := (([.pointer (some ⟨b9, 0, none⟩), nilV, .pointer (some ⟨bf, 0, none⟩), .int .i64 1, v14, nilV, str []] : List Value)).toArray) rfl Tryz.underlying43 ti43 ⟨rfl, ⟨_, _, ti40⟩, rfl, ⟨_, _, ti23⟩, rfl, ⟨_, _, ti41⟩, rfl, ⟨_, _, ti3⟩, rfl, ⟨_, _, ti24⟩, rfl, ⟨_, _, ti24⟩, rfl, ⟨_, _, ti9⟩, trivial⟩ rfl (by obtain ⟨A, c, h⟩ := len_of hsh14; rw [h]; rfl)) ?_
        refine r_e 8 (by kernel_rfl) (by kernel_rfl) rfl (Le.refl _) rfl rfl rfl (e_box rfl rfl rfl) ?_
        rintro _ _ _ ⟨b16, rfl, rfl, rfl⟩
        refine ⟨Le.refl _, .inr SubC.sub, ?_⟩
        refine r_qf 9 (by kernel_rfl) rfl rfl rfl rfl (fun _ => q_assign rfl rfl) ?_
        refine r_end (by kernel_rfl) ?_
        refine n_cut ((b9, b16, .pointer (some ⟨bf, 0, none⟩), v14)) ?_ (sub_cons rfl sub_nil) (sub_cons rfl (sub_cons rfl (sub_cons rfl sub_nil))) (fun _ h => by try dsimp only; exact subC_st h)
        · trivial
      · skip
        refine x_e 3 rfl rfl (Le.refl _) rfl rfl rfl (e_buildSlice0 rfl Tryz.underlying24 ti9) ?_
        rintro v11 _ _ ⟨⟨b11, hb11⟩, rfl, rfl⟩
        refine ⟨Le.refl _, .inr SubC.sub, ?_⟩
        refine r_e 2 (by kernel_rfl) (by kernel_rfl) rfl (Le.refl _) rfl rfl rfl (eff_call rfl rfl rfl Tryz.func24 (by kernel_rfl) rfl (fun w hw => new_calls _ _ _ w hw)) ?_
        rintro _ _ _ ⟨rfl, rfl, bf, rfl⟩
        refine ⟨Le.refl _, .inr SubC.sub, ?_⟩
        refine r_e 6 (by kernel_rfl) (by kernel_rfl) rfl (Le.refl _) rfl rfl rfl (e_appendSl (f := svC) (l := []) (ls := outs) rfl Tryz.underlying24 ti9 rfl rfl rfl rfl (hov) rfl (fun _ => rfl) svC_ones (by simp only [maxLen, List.length_nil]; omega) (by simp only [List.length_nil]; omega)) ?_
        rintro v14 _ _ ⟨rfl, rfl⟩
        refine ⟨Le.refl _, .inr SubC.sub, ?_⟩
        refine r_len v14 (fun hsh14 hone14 => ?_)
        refine r_heap (H' := tvec 9 1 svC v14 outs :: _) ?_ (fun _ h => h)
        refine r_qf 7 (by kernel_rfl) rfl rfl rfl rfl (fun _ => q_build (pl := [(_, _), (_, _), (_, _), (_, _), (_, _), (_, _), (_, _)]) (cs := (([.pointer (some ⟨b9, 0, none⟩), nilV, .pointer (some ⟨bf, 0, none⟩), .int .i64 1, v14, nilV, str []] : List Value)).toArray) rfl Tryz.underlying43 ti43 ⟨rfl, ⟨_, _, ti40⟩, rfl, ⟨_, _, ti23⟩, rfl, ⟨_, _, ti41⟩, rfl, ⟨_, _, ti3⟩, rfl, ⟨_, _, ti24⟩, rfl, ⟨_, _, ti24⟩, rfl, ⟨_, _, ti9⟩, trivial⟩ rfl (by obtain ⟨A, c, h⟩ := len_of hsh14; rw [h]; rfl)) ?_
        refine r_e 8 (by kernel_rfl) (by kernel_rfl) rfl (Le.refl _) rfl rfl rfl (e_box rfl rfl rfl) ?_
        rintro _ _ _ ⟨b16, rfl, rfl, rfl⟩
        refine ⟨Le.refl _, .inr SubC.sub, ?_⟩
        refine r_qf 9 (by kernel_rfl) rfl rfl rfl rfl (fun _ => q_assign rfl rfl) ?_
        refine r_end (by kernel_rfl) ?_
        refine n_cut ((b9, b16, .pointer (some ⟨bf, 0, none⟩), v14)) ?_ (sub_cons rfl sub_nil) (sub_cons rfl (sub_cons rfl (sub_cons rfl sub_nil))) (fun _ h => by try dsimp only; exact subC_st h)
        · trivial
    · skip
      refine x_e 2 rfl rfl (Le.refl _) rfl rfl rfl (eff_call rfl rfl rfl Tryz.func24 (by kernel_rfl) rfl (fun w hw => new_calls _ _ _ w hw)) ?_
      rintro _ _ _ ⟨rfl, rfl, bf, rfl⟩
      refine ⟨Le.refl _, .inr SubC.sub, ?_⟩
      refine r_two 1 3 (by kernel_rfl) (by kernel_rfl) ?_ ?_
      · skip
        refine x_e 1 rfl rfl (Le.refl _) rfl rfl rfl (e_box rfl rfl rfl) ?_
        rintro _ _ _ ⟨b9, rfl, rfl, rfl⟩
        refine ⟨Le.refl _, .inr SubC.sub, ?_⟩
        refine r_e 3 (by kernel_rfl) (by kernel_rfl) rfl (Le.refl _) rfl rfl rfl (e_buildSlice0 rfl Tryz.underlying24 ti9) ?_
        rintro v11 _ _ ⟨⟨b11, hb11⟩, rfl, rfl⟩
        refine ⟨Le.refl _, .inr SubC.sub, ?_⟩
        refine r_e 6 (by kernel_rfl) (by kernel_rfl) rfl (Le.refl _) rfl rfl rfl (e_appendSl (f := svC) (l := []) (ls := outs) rfl Tryz.underlying24 ti9 rfl rfl rfl rfl (hov) rfl (fun _ => rfl) svC_ones (by simp only [maxLen, List.length_nil]; omega) (by simp only [List.length_nil]; omega)) ?_
        rintro v14 _ _ ⟨rfl, rfl⟩
        refine ⟨Le.refl _, .inr SubC.sub, ?_⟩
        refine r_len v14 (fun hsh14 hone14 => ?_)
        refine r_heap (H' := tvec 9 1 svC v14 outs :: _) ?_ (fun _ h => h)
        refine r_qf 7 (by kernel_rfl) rfl rfl rfl rfl (fun _ => q_build (pl := [(_, _), (_, _), (_, _), (_, _), (_, _), (_, _), (_, _)]) (cs := (([.pointer (some ⟨b9, 0, none⟩), nilV, .pointer (some ⟨bf, 0, none⟩), .int .i64 1, v14, nilV, str []] : List Value)).toArray) rfl Tryz.underlying43 ti43 ⟨rfl, ⟨_, _, ti40⟩, rfl, ⟨_, _, ti23⟩, rfl, ⟨_, _, ti41⟩, rfl, ⟨_, _, ti3⟩, rfl, ⟨_, _, ti24⟩, rfl, ⟨_, _, ti24⟩, rfl, ⟨_, _, ti9⟩, trivial⟩ rfl (by obtain ⟨A, c, h⟩ := len_of hsh14; rw [h]; rfl)) ?_
        refine r_e 8 (by kernel_rfl) (by kernel_rfl) rfl (Le.refl _) rfl rfl rfl (e_box rfl rfl rfl) ?_
        rintro _ _ _ ⟨b16, rfl, rfl, rfl⟩
        refine ⟨Le.refl _, .inr SubC.sub, ?_⟩
        refine r_qf 9 (by kernel_rfl) rfl rfl rfl rfl (fun _ => q_assign rfl rfl) ?_
        refine r_end (by kernel_rfl) ?_
        refine n_cut ((b9, b16, .pointer (some ⟨bf, 0, none⟩), v14)) ?_ (sub_cons rfl sub_nil) (sub_cons rfl (sub_cons rfl (sub_cons rfl sub_nil))) (fun _ h => by try dsimp only; exact subC_st h)
        · trivial
      · skip
        refine x_e 3 rfl rfl (Le.refl _) rfl rfl rfl (e_buildSlice0 rfl Tryz.underlying24 ti9) ?_
        rintro v11 _ _ ⟨⟨b11, hb11⟩, rfl, rfl⟩
        refine ⟨Le.refl _, .inr SubC.sub, ?_⟩
        refine r_two 1 6 (by kernel_rfl) (by kernel_rfl) ?_ ?_
        · skip
          refine x_e 1 rfl rfl (Le.refl _) rfl rfl rfl (e_box rfl rfl rfl) ?_
          rintro _ _ _ ⟨b9, rfl, rfl, rfl⟩
          refine ⟨Le.refl _, .inr SubC.sub, ?_⟩
          refine r_e 6 (by kernel_rfl) (by kernel_rfl) rfl (Le.refl _) rfl rfl rfl (e_appendSl (f := svC) (l := []) (ls := outs) rfl Tryz.underlying24 ti9 rfl rfl rfl rfl (hov) rfl (fun _ => rfl) svC_ones (by simp only [maxLen, List.length_nil]; omega) (by simp only [List.length_nil]; omega)) ?_
          rintro v14 _ _ ⟨rfl, rfl⟩
          refine ⟨Le.refl _, .inr SubC.sub, ?_⟩
          refine r_len v14 (fun hsh14 hone14 => ?_)
          refine r_heap (H' := tvec 9 1 svC v14 outs :: _) ?_ (fun _ h => h)
          refine r_qf 7 (by kernel_rfl) rfl rfl rfl rfl (fun _ => q_build (pl := [(_, _), (_, _), (_, _), (_, _), (_, _), (_, _), (_, _)]) (cs := (([.pointer (some ⟨b9, 0, none⟩), nilV, .pointer (some ⟨bf, 0, none⟩), .int .i64 1, v14, nilV, str []] : List Value)).toArray) rfl Tryz.underlying43 ti43 ⟨rfl, ⟨_, _, ti40⟩, rfl, ⟨_, _, ti23⟩, rfl, ⟨_, _, ti41⟩, rfl, ⟨_, _, ti3⟩, rfl, ⟨_, _, ti24⟩, rfl, ⟨_, _, ti24⟩, rfl, ⟨_, _, ti9⟩, trivial⟩ rfl (by obtain ⟨A, c, h⟩ := len_of hsh14; rw [h]; rfl)) ?_
          refine r_e 8 (by kernel_rfl) (by kernel_rfl) rfl (Le.refl _) rfl rfl rfl (e_box rfl rfl rfl) ?_
          rintro _ _ _ ⟨b16, rfl, rfl, rfl⟩
          refine ⟨Le.refl _, .inr SubC.sub, ?_⟩
          refine r_qf 9 (by kernel_rfl) rfl rfl rfl rfl (fun _ => q_assign rfl rfl) ?_
          refine r_end (by kernel_rfl) ?_
          refine n_cut ((b9, b16, .pointer (some ⟨bf, 0, none⟩), v14)) ?_ (sub_cons rfl sub_nil) (sub_cons rfl (sub_cons rfl (sub_cons rfl sub_nil))) (fun _ h => by try dsimp only; exact subC_st h)
          · trivial
        · skip
          refine x_e 6 rfl rfl (Le.refl _) rfl rfl rfl (e_appendSl (f := svC) (l := []) (ls := outs) rfl Tryz.underlying24 ti9 rfl rfl rfl rfl (hov) rfl (fun _ => rfl) svC_ones (by simp only [maxLen, List.length_nil]; omega) (by simp only [List.length_nil]; omega)) ?_
          rintro v14 _ _ ⟨rfl, rfl⟩
          refine ⟨Le.refl _, .inr SubC.sub, ?_⟩
          refine r_len v14 (fun hsh14 hone14 => ?_)
          refine r_heap (H' := tvec 9 1 svC v14 outs :: _) ?_ (fun _ h => h)
          refine r_e 1 (by kernel_rfl) (by kernel_rfl) rfl (Le.refl _) rfl rfl rfl (e_box rfl rfl rfl) ?_
          rintro _ _ _ ⟨b9, rfl, rfl, rfl⟩
          refine ⟨Le.refl _, .inr SubC.sub, ?_⟩
          refine r_qf 7 (by kernel_rfl) rfl rfl rfl rfl (fun _ => q_build (pl := [(_, _), (_, _), (_, _), (_, _), (_, _), (_, _), (_, _)]) (cs := (([.pointer (some ⟨b9, 0, none⟩), nilV, .pointer (some ⟨bf, 0, none⟩), .int .i64 1, v14, nilV, str []] : List Value)).toArray) rfl Tryz.underlying43 ti43 ⟨rfl, ⟨_, _, ti40⟩, rfl, ⟨_, _, ti23⟩, rfl, ⟨_, _, ti41⟩, rfl, ⟨_, _, ti3⟩, rfl, ⟨_, _, ti24⟩, rfl, ⟨_, _, ti24⟩, rfl, ⟨_, _, ti9⟩, trivial⟩ rfl (by obtain ⟨A, c, h⟩ := len_of hsh14; rw [h]; rfl)) ?_
          refine r_e 8 (by kernel_rfl) (by kernel_rfl) rfl (Le.refl _) rfl rfl rfl (e_box rfl rfl rfl) ?_
          rintro _ _ _ ⟨b16, rfl, rfl, rfl⟩
          refine ⟨Le.refl _, .inr SubC.sub, ?_⟩
          refine r_qf 9 (by kernel_rfl) rfl rfl rfl rfl (fun _ => q_assign rfl rfl) ?_
          refine r_end (by kernel_rfl) ?_
          refine n_cut ((b9, b16, .pointer (some ⟨bf, 0, none⟩), v14)) ?_ (sub_cons rfl sub_nil) (sub_cons rfl (sub_cons rfl (sub_cons rfl sub_nil))) (fun _ h => by try dsimp only; exact subC_st h)
          · trivial
    · skip
      refine x_e 3 rfl rfl (Le.refl _) rfl rfl rfl (e_buildSlice0 rfl Tryz.underlying24 ti9) ?_
      rintro v11 _ _ ⟨⟨b11, hb11⟩, rfl, rfl⟩
      refine ⟨Le.refl _, .inr SubC.sub, ?_⟩
      refine r_two 1 2 (by kernel_rfl) (by kernel_rfl) ?_ ?_
      · skip
        refine x_e 1 rfl rfl (Le.refl _) rfl rfl rfl (e_box rfl rfl rfl) ?_
        rintro _ _ _ ⟨b9, rfl, rfl, rfl⟩
        refine ⟨Le.refl _, .inr SubC.sub, ?_⟩
        refine r_e 2 (by kernel_rfl) (by kernel_rfl) rfl (Le.refl _) rfl rfl rfl (eff_call rfl rfl rfl Tryz.func24 (by kernel_rfl) rfl (fun w hw => new_calls _ _ _ w hw)) ?_
        rintro _ _ _ ⟨rfl, rfl, bf, rfl⟩
        refine ⟨Le.refl _, .inr SubC.sub, ?_⟩
        refine r_e 6 (by kernel_rfl) (by kernel_rfl) rfl (Le.refl _) rfl rfl rfl (e_appendSl (f := svC) (l := []) (ls := outs) rfl Tryz.underlying24 ti9 rfl rfl rfl rfl (hov) rfl (fun _ => rfl) svC_ones (by simp only [maxLen, List.length_nil]; omega) (by simp only [List.length_nil]; omega)) ?_
        rintro v14 _ _ ⟨rfl, rfl⟩
        refine ⟨Le.refl _, .inr SubC.sub, ?_⟩
        refine r_len v14 (fun hsh14 hone14 => ?_)
        refine r_heap (H' := tvec 9 1 svC v14 outs :: _) ?_ (fun _ h => h)
        refine r_qf 7 (by kernel_rfl) rfl rfl rfl rfl (fun _ => q_build (pl := [(_, _), (_, _), (_, _), (_, _), (_, _), (_, _), (_, _)]) (cs := (([.pointer (some ⟨b9, 0, none⟩), nilV, .pointer (some ⟨bf, 0, none⟩), .int .i64 1, v14, nilV, str []] : List Value)).toArray) rfl Tryz.underlying43 ti43 ⟨rfl, ⟨_, _, ti40⟩, rfl, ⟨_, _, ti23⟩, rfl, ⟨_, _, ti41⟩, rfl, ⟨_, _, ti3⟩, rfl, ⟨_, _, ti24⟩, rfl, ⟨_, _, ti24⟩, rfl, ⟨_, _, ti9⟩, trivial⟩ rfl (by obtain ⟨A, c, h⟩ := len_of hsh14; rw [h]; rfl)) ?_
        refine r_e 8 (by kernel_rfl) (by kernel_rfl) rfl (Le.refl _) rfl rfl rfl (e_box rfl rfl rfl) ?_
        rintro _ _ _ ⟨b16, rfl, rfl, rfl⟩
        refine ⟨Le.refl _, .inr SubC.sub, ?_⟩
        refine r_qf 9 (by kernel_rfl) rfl rfl rfl rfl (fun _ => q_assign rfl rfl) ?_
        refine r_end (by kernel_rfl) ?_
        refine n_cut ((b9, b16, .pointer (some ⟨bf, 0, none⟩), v14)) ?_ (sub_cons rfl sub_nil) (sub_cons rfl (sub_cons rfl (sub_cons rfl sub_nil))) (fun _ h => by try dsimp only; exact subC_st h)
        · trivial
      · skip
        refine x_e 2 rfl rfl (Le.refl _) rfl rfl rfl (eff_call rfl rfl rfl Tryz.func24 (by kernel_rfl) rfl (fun w hw => new_calls _ _ _ w hw)) ?_
        rintro _ _ _ ⟨rfl, rfl, bf, rfl⟩
        refine ⟨Le.refl _, .inr SubC.sub, ?_⟩
        refine r_two 1 6 (by kernel_rfl) (by kernel_rfl) ?_ ?_
        · skip
          refine x_e 1 rfl rfl (Le.refl _) rfl rfl rfl (e_box rfl rfl rfl) ?_
          rintro _ _ _ ⟨b9, rfl, rfl, rfl⟩
          refine ⟨Le.refl _, .inr SubC.sub, ?_⟩
          refine r_e 6 (by kernel_rfl) (by kernel_rfl) rfl (Le.refl _) rfl rfl rfl (e_appendSl (f := svC) (l := []) (ls := outs) rfl Tryz.underlying24 ti9 rfl rfl rfl rfl (hov) rfl (fun _ => rfl) svC_ones (by simp only [maxLen, List.length_nil]; omega) (by simp only [List.length_nil]; omega)) ?_
          rintro v14 _ _ ⟨rfl, rfl⟩
          refine ⟨Le.refl _, .inr SubC.sub, ?_⟩
          refine r_len v14 (fun hsh14 hone14 => ?_)
          refine r_heap (H' := tvec 9 1 svC v14 outs :: _) ?_ (fun _ h => h)
          refine r_qf 7 (by kernel_rfl) rfl rfl rfl rfl (fun _ => q_build (pl := [(_, _), (_, _), (_, _), (_, _), (_, _), (_, _), (_, _)]) (cs := (([.pointer (some ⟨b9, 0, none⟩), nilV, .pointer (some ⟨bf, 0, none⟩), .int .i64 1, v14, nilV, str []] : List Value)).toArray) rfl Tryz.underlying43 ti43 ⟨rfl, ⟨_, _, ti40⟩, rfl, ⟨_, _, ti23⟩, rfl, ⟨_, _, ti41⟩, rfl, ⟨_, _, ti3⟩, rfl, ⟨_, _, ti24⟩, rfl, ⟨_, _, ti24⟩, rfl, ⟨_, _, ti9⟩, trivial⟩ rfl (by obtain ⟨A, c, h⟩ := len_of hsh14; rw [h]; rfl)) ?_
          refine r_e 8 (by kernel_rfl) (by kernel_rfl) rfl (Le.refl _) rfl rfl rfl (e_box rfl rfl rfl) ?_
          rintro _ _ _ ⟨b16, rfl, rfl, rfl⟩
          refine ⟨Le.refl _, .inr SubC.sub, ?_⟩
          refine r_qf 9 (by kernel_rfl) rfl rfl rfl rfl (fun _ => q_assign rfl rfl) ?_
          refine r_end (by kernel_rfl) ?_
          refine n_cut ((b9, b16, .pointer (some ⟨bf, 0, none⟩), v14)) ?_ (sub_cons rfl sub_nil) (sub_cons rfl (sub_cons rfl (sub_cons rfl sub_nil))) (fun _ h => by try dsimp only; exact subC_st h)
          · trivial
        · skip
          refine x_e 6 rfl rfl (Le.refl _) rfl rfl rfl (e_appendSl (f := svC) (l := []) (ls := outs) rfl Tryz.underlying24 ti9 rfl rfl rfl rfl (hov) rfl (fun _ => rfl) svC_ones (by simp only [maxLen, List.length_nil]; omega) (by simp only [List.length_nil]; omega)) ?_
          rintro v14 _ _ ⟨rfl, rfl⟩
          refine ⟨Le.refl _, .inr SubC.sub, ?_⟩
          refine r_len v14 (fun hsh14 hone14 => ?_)
          refine r_heap (H' := tvec 9 1 svC v14 outs :: _) ?_ (fun _ h => h)
          refine r_e 1 (by kernel_rfl) (by kernel_rfl) rfl (Le.refl _) rfl rfl rfl (e_box rfl rfl rfl) ?_
          rintro _ _ _ ⟨b9, rfl, rfl, rfl⟩
          refine ⟨Le.refl _, .inr SubC.sub, ?_⟩
          refine r_qf 7 (by kernel_rfl) rfl rfl rfl rfl (fun _ => q_build (pl := [(_, _), (_, _), (_, _), (_, _), (_, _), (_, _), (_, _)]) (cs := (([.pointer (some ⟨b9, 0, none⟩), nilV, .pointer (some ⟨bf, 0, none⟩), .int .i64 1, v14, nilV, str []] : List Value)).toArray) rfl Tryz.underlying43 ti43 ⟨rfl, ⟨_, _, ti40⟩, rfl, ⟨_, _, ti23⟩, rfl, ⟨_, _, ti41⟩, rfl, ⟨_, _, ti3⟩, rfl, ⟨_, _, ti24⟩, rfl, ⟨_, _, ti24⟩, rfl, ⟨_, _, ti9⟩, trivial⟩ rfl (by obtain ⟨A, c, h⟩ := len_of hsh14; rw [h]; rfl)) ?_
          refine r_e 8 (by kernel_rfl) (by kernel_rfl) rfl (Le.refl _) rfl rfl rfl (e_box rfl rfl rfl) ?_
          rintro _ _ _ ⟨b16, rfl, rfl, rfl⟩
          refine ⟨Le.refl _, .inr SubC.sub, ?_⟩
          refine r_qf 9 (by kernel_rfl) rfl rfl rfl rfl (fun _ => q_assign rfl rfl) ?_
          refine r_end (by kernel_rfl) ?_
          refine n_cut ((b9, b16, .pointer (some ⟨bf, 0, none⟩), v14)) ?_ (sub_cons rfl sub_nil) (sub_cons rfl (sub_cons rfl (sub_cons rfl sub_nil))) (fun _ h => by try dsimp only; exact subC_st h)
          · trivial
  rintro ⟨vb, eb, fv, ov'⟩ _
  try dsimp only at *
  refine t_seq ?_
  refine t_seq ?_
  refine t_region ?_
  refine l_q rfl rfl rfl (q_fieldAddr rfl Tryz.underlying26 rfl rfl ti23 rfl rfl) ?_
  refine l_q rfl rfl rfl (q_load_row rfl Tryz.underlying23 rfl rfl (by rfl)) ?_
  refine l_q rfl rfl rfl ((by first | exact q_lenV rfl Tryz.underlying23 rfl | exact q_len rfl Tryz.underlying23 rfl (⟨none, 0, rfl⟩) | exact q_len rfl Tryz.underlying23 rfl (Sl.lenOf hvv (List.length_map _)))) ?_
  refine l_q rfl rfl rfl (q_move rfl rfl) ?_
  refine l_nil ?_
  refine n_then ?_
  refine t_block ?_
  refine t_loopE (ι := Nat × Value × Look) (fun zz => zz.1 ≤ (varL x).length ∧ Le I zz.2.2 ∧ Sl zz.2.2 5 zz.2.1 (((varL x).take zz.1).map vrC) ∧ (zz.1 = 0 → zz.2.1 = nilV)) (fun zz => (varL x).length - zz.1) (fun zz => [(20, .int .i64 (zz.1 : Int))]) [(3, _), (0, _), (1, _), (2, _), (18, _), (19, _)] (fun zz => zz.2.2) (fun zz => (row vb 65 [zz.2.1, nilV] :: row eb 43 [.pointer (some ⟨vb, 0, none⟩), nilV, fv, .int .i64 1, ov', nilV, str []] :: tvec 9 1 svC ov' outs :: row b1 26 [vv, nilV, ov, nilV] :: F)) (0, nilV, I) ?_ (sub_cons rfl sub_nil) (sub_cons rfl (sub_cons rfl (sub_cons rfl (sub_cons rfl (sub_cons rfl (sub_cons rfl sub_nil)))))) (fun _ h => subC_st h) ?_
  · try dsimp only
    exact ⟨Nat.zero_le _, Le.refl _, sl_nil (fun _ h => by cases h), fun _ => rfl⟩
  rintro ⟨i, lv, J⟩ ⟨hi, hJ, hlv, hl0⟩
  try dsimp only at *
  refine t_seq ?_
  refine t_region ?_
  refine l_q rfl rfl rfl (q_lss rfl rfl rfl) ?_
  refine l_nil ?_
  refine n_then ?_
  refine t_seq ?_
  refine t_cond rfl (fun hc0 => ?_) (fun hc0 => ?_)
  · skip
    have hil : i < (varL x).length := by have := of_decide_eq_true hc0; omega
    obtain ⟨v, rfl, rfl⟩ := varL_in hil
    obtain rfl := hl0 rfl
    refine t_skip ?_
    refine n_then ?_
    refine t_seq ?_
    refine t_block ?_
    refine t_seq ?_
    refine t_region ?_
    refine l_q rfl rfl rfl ((by first | exact q_indexAddrVN rfl Tryz.underlying23 ti28 rfl rfl (by omega) | exact q_indexAddrN rfl Tryz.underlying23 ti28 rfl rfl (Sl.shape hvv (List.length_map _)) (by omega) | exact q_indexAddrV rfl Tryz.underlying23 ti28 rfl rfl (by omega) | exact q_indexAddr rfl Tryz.underlying23 ti28 rfl rfl (Sl.shape hvv (List.length_map _)) (by omega))) ?_
    refine l_q rfl rfl rfl ((by first | exact q_load_rowA rfl Tryz.underlying28 ti28 rfl rfl rfl | exact q_load_agg rfl Tryz.underlying28 ti28 rfl rfl (rds_vr (i := 0) (hvv.mono hJ) (by simp [varL])))) ?_
    refine l_e rfl rfl rfl (e_alloc rfl ti28 rfl) ?_
    rintro _ _ _ ⟨b5, rfl, rfl, rfl⟩
    refine l_e0 rfl rfl ((by first | exact e_store_all rfl ti28 rfl rfl rfl (by first | exact chC_ones _ | exact pcC_ones _ | exact vrC_ones _ | simp [Value.oneCell', str, u8]) rfl | exact e_store_agg rfl ti28 rfl rfl rfl (by first | exact chC_ones _ | exact pcC_ones _ | exact vrC_ones _ | simp [Value.oneCell', str, u8]) rfl)) ?_
    rintro _ _ _ ⟨rfl, rfl⟩
    refine l_heap (H' := row b5 28 (vrC ⟨[120], v, false, false, false⟩) :: _) ?_ (fun _ h => h)
    refine l_nil ?_
    refine n_then ?_
    refine t_seq ?_
    refine t_seq ?_
    refine t_region ?_
    refine l_q rfl rfl rfl (q_fieldAddr rfl Tryz.underlying28 rfl rfl ti4 rfl rfl) ?_
    refine l_q rfl rfl rfl (q_load_row rfl Tryz.underlying4 rfl rfl (by rfl)) ?_
    refine l_q rfl rfl rfl (q_not rfl rfl) ?_
    refine l_nil ?_
    refine n_then ?_
    refine t_cond rfl (fun hc1 => ?_) (fun hc1 => ?_)
    · skip
      refine t_draw [8] [8] [row b5 28 (vrC ⟨[120], v, false, false, false⟩), row eb 43 [.pointer (some ⟨vb, 0, none⟩), nilV, fv, .int .i64 1, ov', nilV, str []]] mo (by kernel_rfl) (fun _ _ _ _ _ h => h) ?_
      refine r_q1 0 (by kernel_rfl) rfl (Le.refl _) rfl rfl rfl (q_move rfl rfl) ?_
      refine r_q1 1 (by kernel_rfl) rfl (Le.refl _) rfl rfl rfl (q_nilCheck rfl rfl) ?_
      refine r_q1 2 (by kernel_rfl) rfl (Le.refl _) rfl rfl rfl (q_fieldAddr rfl Tryz.underlying43 rfl rfl ti40 rfl rfl) ?_
      refine r_q1 3 (by kernel_rfl) rfl (Le.refl _) rfl rfl rfl (q_load_row rfl Tryz.underlying40 rfl rfl (by rfl)) ?_
      refine r_q1 4 (by kernel_rfl) rfl (Le.refl _) rfl rfl rfl (q_fieldAddr rfl Tryz.underlying28 rfl rfl ti9 rfl rfl) ?_
      refine r_q1 5 (by kernel_rfl) rfl (Le.refl _) rfl rfl rfl (q_load_row rfl Tryz.underlying9 rfl rfl (by rfl)) ?_
      refine r_q1 6 (by kernel_rfl) rfl (Le.refl _) rfl rfl rfl (q_fieldAddr rfl Tryz.underlying28 rfl rfl ti9 rfl rfl) ?_
      refine r_q1 7 (by kernel_rfl) rfl (Le.refl _) rfl rfl rfl (q_load_row rfl Tryz.underlying9 rfl rfl (by rfl)) ?_
      refine r_e 8 (by kernel_rfl) (by kernel_rfl) rfl (Le.refl _) rfl rfl rfl (eff_call rfl rfl rfl Tryz.func25 (by kernel_rfl) rfl ((fun w hw => setv_nil vb [120] v (by decide) rfl (hx v rfl) nilV one_nilV J (row b5 28 (vrC ⟨[120], v, false, false, false⟩) :: row eb 43 [.pointer (some ⟨vb, 0, none⟩), nilV, fv, .int .i64 1, ov', nilV, str []] :: tvec 9 1 svC ov' outs :: row b1 26 [vv, nilV, ov, nilV] :: F) _ w (picks_st5 (row vb 65 [nilV, nilV]) (row b5 28 (vrC ⟨[120], v, false, false, false⟩)) (row eb 43 [.pointer (some ⟨vb, 0, none⟩), nilV, fv, .int .i64 1, ov', nilV, str []]) (tvec 9 1 svC ov' outs) (row b1 26 [vv, nilV, ov, nilV]) hw)))) ?_
      rintro _ J35 _ ⟨hJ35, rfl, lv35, rfl, hlv35⟩
      refine ⟨hJ35, .inl rfl, ?_⟩
      refine r_end (by kernel_rfl) ?_
      refine n_then ?_
      refine t_qdraw mo (by kernel_rfl) (fun _ _ _ _ _ h => h) ?_
      refine s_q rfl rfl rfl (q_move rfl rfl) ?_
      refine s_q rfl rfl rfl (q_nilCheck rfl rfl) ?_
      refine s_q rfl rfl rfl (q_fieldAddr rfl Tryz.underlying43 rfl rfl ti40 rfl rfl) ?_
      refine s_q rfl rfl rfl (q_load_row rfl Tryz.underlying40 rfl rfl (by rfl)) ?_
      refine s_q rfl rfl rfl (q_fieldAddr rfl Tryz.underlying28 rfl rfl ti9 rfl rfl) ?_
      refine s_q rfl rfl rfl (q_load_row rfl Tryz.underlying9 rfl rfl (by rfl)) ?_
      refine s_q rfl rfl rfl (q_fieldAddr rfl Tryz.underlying28 rfl rfl ti4 rfl rfl) ?_
      refine s_q rfl rfl rfl (q_load_row rfl Tryz.underlying4 rfl rfl (by rfl)) ?_
      refine s_q rfl rfl rfl (q_fieldAddr rfl Tryz.underlying28 rfl rfl ti4 rfl rfl) ?_
      refine s_q rfl rfl rfl (q_load_row rfl Tryz.underlying4 rfl rfl (by rfl)) ?_
      refine s_q rfl rfl rfl (quiet_call rfl rfl rfl Tryz.func26 (by kernel_rfl) rfl ((fun w _ => mark_pure vb [120] w (by decide) rfl))) ?_
      refine s_done ?_
      refine n_block ?_
      refine n_then ?_
      refine t_region ?_
      refine l_q rfl rfl rfl (q_add64 rfl rfl rfl (by omega)) ?_
      refine l_q rfl rfl rfl (q_move rfl rfl) ?_
      refine l_nil ?_
      refine n_roundE ((0 + 1, lv35, J35)) ?_ ?_ (sub_cons rfl sub_nil) (sub_cons rfl (sub_cons rfl (sub_cons rfl (sub_cons rfl (sub_cons rfl (sub_cons rfl sub_nil)))))) (fun _ h => by try dsimp only; exact subC_st h)
      · try dsimp only
        exact ⟨by simp [varL], hJ.trans hJ35, hlv35, fun h => by cases h⟩
      · try dsimp only
        show 1 - (0 + 1) < 1 - 0
        omega
    · skip
      cases hc1
  · skip
    have hil : i = (varL x).length := by have := of_decide_eq_false hc0; omega
    rw [hil, List.take_length] at hlv
    refine t_exit ?_
    refine n_exit_then ?_
    refine n_exit_then ?_
    refine n_exit_block ?_
    refine n_then ?_
    refine t_seq ?_
    refine t_draw [6] [6] [row eb 43 [.pointer (some ⟨vb, 0, none⟩), nilV, fv, .int .i64 1, ov', nilV, str []], row b1 26 [vv, nilV, ov, nilV]] mo (by kernel_rfl) (fun _ _ _ _ _ h => h) ?_
    refine r_q1 0 (by kernel_rfl) rfl (Le.refl _) rfl rfl rfl (q_move rfl rfl) ?_
    refine r_q1 1 (by kernel_rfl) rfl (Le.refl _) rfl rfl rfl (q_nilCheck rfl rfl) ?_
    refine r_q1 2 (by kernel_rfl) rfl (Le.refl _) rfl rfl rfl (q_fieldAddr rfl Tryz.underlying43 rfl rfl ti40 rfl rfl) ?_
    refine r_q1 3 (by kernel_rfl) rfl (Le.refl _) rfl rfl rfl (q_load_row rfl Tryz.underlying40 rfl rfl (by rfl)) ?_
    refine r_q1 4 (by kernel_rfl) rfl (Le.refl _) rfl rfl rfl (q_fieldAddr rfl Tryz.underlying26 rfl rfl ti24 rfl rfl) ?_
    refine r_q1 5 (by kernel_rfl) rfl (Le.refl _) rfl rfl rfl (q_load_row rfl Tryz.underlying24 rfl rfl (by rfl)) ?_
    refine r_e 6 (by kernel_rfl) (by kernel_rfl) rfl (Le.refl _) rfl rfl rfl (eff_call rfl rfl rfl Tryz.func27 (by kernel_rfl) rfl (fun w hw => setArgs_calls vb lv nilV J (row eb 43 [.pointer (some ⟨vb, 0, none⟩), nilV, fv, .int .i64 1, ov', nilV, str []] :: tvec 9 1 svC ov' outs :: row b1 26 [vv, nilV, ov, nilV] :: F) _ w (picks_st4 (row vb 65 [lv, nilV]) (row eb 43 [.pointer (some ⟨vb, 0, none⟩), nilV, fv, .int .i64 1, ov', nilV, str []]) (tvec 9 1 svC ov' outs) (row b1 26 [vv, nilV, ov, nilV]) hw))) ?_
    rintro _ J54 _ ⟨hJ54, rfl, av54, rfl, hav54⟩
    refine ⟨hJ54, .inl rfl, ?_⟩
    refine r_end (by kernel_rfl) ?_
    refine n_then ?_
    refine t_seq ?_
    refine t_region ?_
    refine l_q rfl rfl rfl (q_move rfl rfl) ?_
    refine l_q rfl rfl rfl (q_build (pl := [(_, _), (_, _), (_, _), (_, _), (_, _)]) (cs := #[_, _, _, _, _]) rfl Tryz.underlying28 ti28 ⟨rfl, ⟨_, _, ti9⟩, rfl, ⟨_, _, ti9⟩, rfl, ⟨_, _, ti4⟩, rfl, ⟨_, _, ti4⟩, rfl, ⟨_, _, ti4⟩, trivial⟩ rfl rfl) ?_
    refine l_q rfl rfl rfl (q_build (pl := [(_, _), (_, _), (_, _), (_, _), (_, _)]) (cs := #[_, _, _, _, _]) rfl Tryz.underlying28 ti28 ⟨rfl, ⟨_, _, ti9⟩, rfl, ⟨_, _, ti9⟩, rfl, ⟨_, _, ti4⟩, rfl, ⟨_, _, ti4⟩, rfl, ⟨_, _, ti4⟩, trivial⟩ rfl rfl) ?_
    refine l_q rfl rfl rfl (q_build (pl := [(_, _), (_, _), (_, _), (_, _), (_, _)]) (cs := #[_, _, _, _, _]) rfl Tryz.underlying28 ti28 ⟨rfl, ⟨_, _, ti9⟩, rfl, ⟨_, _, ti9⟩, rfl, ⟨_, _, ti4⟩, rfl, ⟨_, _, ti4⟩, rfl, ⟨_, _, ti4⟩, trivial⟩ rfl rfl) ?_
    refine l_e rfl rfl rfl (e_buildSliceN (vs := [_, _, _]) (css := [vrC ⟨[63], [48], false, false, false⟩, vrC ⟨[36], [50], false, false, false⟩, vrC ⟨[48], shyS, false, false, false⟩]) rfl Tryz.underlying23 ti28 rfl rfl rfl rfl (rfl) (by simp [vrC])) ?_
    rintro _ _ _ ⟨b59, rfl, rfl, rfl⟩
    refine l_freezeRow b59 (fun J59 hJ59 hk59 => ?_)
    have hsp := sl_row (f := vrC) (sz := 5) specL hk59 rfl rfl (fun _ => rfl)
    refine l_q rfl rfl rfl (q_nilCheck rfl rfl) ?_
    refine l_q rfl rfl rfl (q_fieldAddr rfl Tryz.underlying43 rfl rfl ti23 rfl rfl) ?_
    refine l_e0 rfl rfl (e_storeS rfl ti23 rfl rfl (by first | exact ⟨rfl, rfl⟩ | assumption) rfl (by first | (simp only [List.set_cons_succ, List.set_cons_zero]; rfl) | rfl)) ?_
    rintro _ _ _ ⟨rfl, rfl⟩
    refine l_heap (H' := row eb 43 [.pointer (some ⟨vb, 0, none⟩), .slice (some ⟨b59, 0, none⟩) 3 3, fv, .int .i64 1, ov', nilV, str []] :: _) ?_ (fun _ h => h)
    refine l_nil ?_
    refine n_then ?_
    refine t_seq ?_
    refine t_seq ?_
    refine t_region ?_
    refine l_q rfl rfl rfl (q_fieldAddr rfl Tryz.underlying26 rfl rfl ti24 rfl rfl) ?_
    refine l_q rfl rfl rfl (q_load_row rfl Tryz.underlying24 rfl rfl (by rfl)) ?_
    refine l_q rfl rfl rfl ((by first | exact q_lenV rfl Tryz.underlying24 rfl | exact q_len rfl Tryz.underlying24 rfl (⟨none, 0, rfl⟩) | exact q_len rfl Tryz.underlying24 rfl (Sl.lenOf hvv (List.length_map _)))) ?_
    refine l_q rfl rfl rfl (q_move rfl rfl) ?_
    refine l_nil ?_
    refine n_then ?_
    refine t_block ?_
    refine t_loopE (ι := Unit) (fun _ => True) (fun _ => 0) (fun _ => [(65, .int .i64 0)]) [(20, _), (3, _), (0, _), (1, _), (2, _), (18, _), (19, _), (21, _), (63, _), (64, _)] (fun _ => J59) (fun _ => (row vb 65 [lv, av54] :: row eb 43 [.pointer (some ⟨vb, 0, none⟩), .slice (some ⟨b59, 0, none⟩) 3 3, fv, .int .i64 1, ov', nilV, str []] :: tvec 9 1 svC ov' outs :: F)) () ?_ (sub_cons rfl sub_nil) (sub_cons rfl (sub_cons rfl (sub_cons rfl (sub_cons rfl (sub_cons rfl (sub_cons rfl (sub_cons rfl (sub_cons rfl (sub_cons rfl (sub_cons rfl sub_nil)))))))))) (fun _ h => subC_st h) ?_
    · try dsimp only
      skip
    rintro _ _
    refine t_seq ?_
    refine t_region ?_
    refine l_q rfl rfl rfl (q_lss rfl rfl rfl) ?_
    refine l_nil ?_
    refine n_then ?_
    refine t_seq ?_
    refine t_cond rfl (fun hc2 => ?_) (fun hc2 => ?_)
    · skip
      exact absurd hc2 (by decide)
    · skip
      refine t_exit ?_
      refine n_exit_then ?_
      refine n_exit_then ?_
      refine n_exit_block ?_
      refine n_then ?_
      refine t_seq ?_
      refine t_freezeT (f := svC) (l := outs) ov' (fun _ => rfl) (fun Jf hJf hof => ?_)
      refine t_region ?_
      refine l_q rfl rfl rfl (q_move rfl rfl) ?_
      refine l_q rfl rfl rfl (q_assign rfl rfl) ?_
      refine l_nil ?_
      refine n_then ?_
      refine t_ret ?_
      refine n_ret1 rfl rfl (fun w' hw => ?_)
      -- leaf 0
      exact ⟨_, rfl, Jf, _, ⟨hJ.trans (hJ54.trans (hJ59.trans hJf)), ⟨0, eb, vb, fv, .slice (some ⟨b59, 0, none⟩) 3 3, ov', av54⟩, lv, rfl, rfl, ⟨hsp.mono hJf, hof, hlv.mono (hJ54.trans (hJ59.trans hJf)), fun h => hl0 (by subst h; exact hil), hon, hav54⟩⟩, subC_st (H' := row eb 43 [.pointer (some ⟨vb, 0, none⟩), .slice (some ⟨b59, 0, none⟩) 3 3, fv, .int .i64 1, ov', nilV, str []] :: row vb 65 [lv, av54] :: F) hw⟩
end Go.Tri
