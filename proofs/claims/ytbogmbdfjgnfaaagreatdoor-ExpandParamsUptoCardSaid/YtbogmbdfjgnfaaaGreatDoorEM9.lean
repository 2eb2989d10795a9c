/-
  The statement walked: parameters.
-/
import Derived.Test.YtbogmbdfjgnfaaaGreatDoorEM8
namespace Go.Tri
open Go.Proofs Go.RowKit
theorem vname_x (x : Option (List UInt8)) : ∀ v ∈ varsOf x, v.name.length ≤ 1000000000 := by
  intro v hv
  cases x with
  | none => cases hv
  | some u => rw [show varsOf (some u) = [xV u] from rfl, List.mem_singleton] at hv; subst hv; show ([120] : List UInt8).length ≤ _; decide
theorem itoa0 : Lib.itoa 0 = [48] := by decide +kernel
theorem asked_x (x : Option (List UInt8)) : (hxX x).asked.length ≤ 900000 := by cases x <;> exact Nat.zero_le _
theorem host_x {H : List HA} {I : Look} {w0 w : World} {F : List HA} {p : HP} {lv : Value} {x : Option (List UInt8)} {b : Nat} [hq : Picks [row b 37 [.pointer (some ⟨p.eb, 0, none⟩)], row p.eb 43 (envC p nilV), row p.vb 65 [lv, p.gv]] F H] (hw : St w0 I H w) : St w0 I (hostH { p with hb := b } lv nilV (hxX x) F) w := by
  have e : hxX x = ⟨(hxX x).vars, [], [], []⟩ := by cases x <;> rfl
  rw [e]; exact host_start hw
set_option maxRecDepth 10000 in
theorem oneP_pure (x : Option (List UInt8)) (hx : (x.getD []).length ≤ 300) (b : Nat) (vv : Value) (s r : List UInt8) (hok : OneOk x s r) (w : World) (hG : EnvI (look w)) (hb : Rowed w b [vv, nilV, nilV, nilV]) (hv : Sl (look w) 5 vv ((varsOf x).map vrC)) : Pure Tryz.prog 9 [str s, .pointer (some ⟨b, 0, none⟩)] w (str r) := by
  obtain ⟨hs, hpp⟩ := oneT_parts hok
  have hE := expOk_of (h := hxX x) (s := s) (kd := 0)
  refine enter Tryz.func9 rfl Tryz.ntmps9 rfl (St.start w (look w) (Le.refl _)) ?_
  refine t_seq ?_
  refine t_region ?_
  refine l_q rfl rfl rfl (q_assign rfl rfl) ?_
  refine l_nil ?_
  refine n_then ?_
  refine t_seq ?_
  refine t_region ?_
  refine l_q rfl rfl rfl ((by first | exact q_load_rowA rfl Tryz.underlying26 ti26 rfl rfl rfl | exact q_load_agg rfl Tryz.underlying26 ti26 rfl rfl (rds_imm (fun j u hj => by rw [Nat.zero_add]; exact hb j u hj)))) ?_
  refine l_e rfl rfl rfl (eff_call rfl rfl rfl Tryz.func11 (by kernel_rfl) rfl (fun w hw => set_calls (varsOf x) [] [] vv nilV nilV (by have := varsOf_le x; omega) (vname_x x) (by decide) _ hv sl_nilT sl_nilT _ _ w hw)) ?_
  rintro _ J9 _ ⟨hJ9, p, lv, rfl, rfl, hi9⟩
  rw [lay_x (by omega)] at hi9
  refine l_q rfl rfl rfl (q_build (pl := [(_, _)]) (cs := (([.pointer (some ⟨p.eb, 0, none⟩)] : List Value)).toArray) rfl Tryz.underlying37 ti37 ⟨rfl, ⟨_, _, ti34⟩, trivial⟩ rfl rfl) ?_
  refine l_e rfl rfl rfl (e_box rfl rfl rfl) ?_
  rintro _ _ _ ⟨b11, rfl, rfl, rfl⟩
  refine l_heap (H' := hostH { p with hb := b11 } lv nilV (hxX x) []) ?_ (fun _ h => host_x h)
  refine l_q rfl rfl rfl (q_makeIface rfl Tryz.underlying33 rfl rfl) ?_
  refine l_q rfl rfl rfl (q_move rfl rfl) ?_
  refine l_e rfl rfl rfl (eff_call rfl rfl rfl Tryz.func10 (by kernel_rfl) rfl (fun w hw => onex_calls { p with hb := b11 } s 0 (by omega) (hxX x) (hE { p with hb := b11 } (hb_x (by omega)) (asked_x x) hpp).1 (hE { p with hb := b11 } (hb_x (by omega)) (asked_x x) hpp).2 lv nilV J9 [] _ w (hG.mono hJ9) (hi9.hb b11) hw)) ?_
  rintro _ J14 _ ⟨hJ14, rfl, lv2, av2, rfl, hi14⟩
  refine l_q rfl rfl rfl (q_move rfl rfl) ?_
  refine l_q rfl rfl rfl (q_extract rfl rfl rfl) ?_
  refine l_q rfl rfl rfl (q_extract rfl rfl rfl) ?_
  refine l_q rfl rfl rfl (q_extract rfl rfl rfl) ?_
  refine l_q rfl rfl rfl (q_assign rfl rfl) ?_
  refine l_q rfl rfl rfl (q_assign rfl rfl) ?_
  refine l_q rfl rfl rfl (q_assign rfl rfl) ?_
  refine l_nil ?_
  refine n_then ?_
  refine t_seq ?_
  refine t_seq ?_
  refine t_region ?_
  refine l_q rfl rfl rfl (q_move rfl rfl) ?_
  refine l_q rfl rfl rfl (q_neq rfl rfl rfl) ?_
  refine l_nil ?_
  refine n_then ?_
  refine t_cond rfl (fun hc0 => ?_) (fun hc0 => ?_)
  · skip
    have hr : oneT (hxX x) s = errT := if_pos (by have := of_decide_eq_true hc0; omega)
    refine t_seq ?_
    refine t_region ?_
    refine l_q rfl rfl rfl (q_assign rfl rfl) ?_
    refine l_nil ?_
    refine n_then ?_
    refine t_ret ?_
    refine n_ret_then ?_
    refine n_ret1 rfl rfl (fun w' hw => ?_)
    -- leaf 0
    refine ⟨?_, (hw.less (hJ9.trans hJ14)).below⟩
    rw [← hok.2, hr]
    try rfl
  · skip
    have hr : oneT (hxX x) s = (oneX (hxX x) s 0).1 := if_neg (by have := of_decide_eq_false hc0; omega)
    refine t_skip ?_
    refine n_then ?_
    refine t_seq ?_
    refine t_region ?_
    refine l_q rfl rfl rfl (q_move rfl rfl) ?_
    refine l_q rfl rfl rfl (q_assign rfl rfl) ?_
    refine l_nil ?_
    refine n_then ?_
    refine t_ret ?_
    refine n_ret1 rfl rfl (fun w' hw => ?_)
    -- leaf 1
    refine ⟨?_, (hw.less (hJ9.trans hJ14)).below⟩
    rw [← hok.2, hr]
    try rfl
set_option maxRecDepth 10000 in
set_option maxHeartbeats 4000000 in
theorem expandParams_pure (v wt : List UInt8) (has : Bool) (w : World) (hv9 : v.length ≤ 1048576) (hw9 : wt.length ≤ 1048576) (hG : EnvI (look w)) : Pure Tryz.prog 3 [str v, str wt, .bool has] w (.bool true) := by
  have hq1 := quoteB_len wt
  have hq2 := quoteB_len v
  refine enter Tryz.func3 rfl Tryz.ntmps3 rfl (St.start w (look w) (Le.refl _)) ?_
  refine t_seq ?_
  refine t_region ?_
  refine l_q rfl rfl rfl (q_assign rfl rfl) ?_
  refine l_nil ?_
  refine n_then ?_
  refine t_seq ?_
  refine t_seq ?_
  refine t_region ?_
  refine l_q rfl rfl rfl (quiet_call rfl rfl rfl Tryz.func7 (by kernel_rfl) rfl ((fun w hw => awake_pure w (hG.mono hw.le)))) ?_
  refine l_q rfl rfl rfl (q_not rfl rfl) ?_
  refine l_nil ?_
  refine n_then ?_
  refine t_cond rfl (fun hc0 => ?_) (fun hc0 => ?_)
  · skip
    cases hc0
  · skip
    refine t_skip ?_
    refine n_then ?_
    refine t_seq ?_
    refine t_seq ?_
    refine t_qreg ?_
    refine s_q rfl rfl rfl (q_move rfl rfl) ?_
    refine s_q rfl rfl rfl (q_len_str rfl Tryz.underlying9 rfl) ?_
    refine s_q rfl rfl rfl (q_move rfl rfl) ?_
    refine s_q rfl rfl rfl (q_len_str rfl Tryz.underlying9 rfl) ?_
    refine s_q rfl rfl rfl (q_add64 rfl rfl rfl (by omega)) ?_
    refine s_q rfl rfl rfl (q_gtr rfl rfl rfl) ?_
    refine s_q rfl rfl rfl (q_move rfl rfl) ?_
    refine s_or2 7 6 20 28 27 _ _ rfl rfl rfl rfl rfl rfl (fun h28 => by
        try simp at h28
        refine s_g rfl rfl rfl rfl rfl rfl (q_move rfl rfl) ?_
        refine s_g rfl rfl rfl rfl rfl rfl (q_neq_str rfl rfl rfl) ?_
        refine s_g rfl rfl rfl rfl rfl rfl (q_move rfl rfl) ?_
        refine s_and2 3 9 23 27 26 _ _ rfl rfl rfl rfl rfl rfl (fun h27 => by
            try simp at h27
            have hv0 : 0 < v.length := List.length_pos_iff.2 h27
            refine s_g rfl rfl rfl rfl rfl rfl (q_move rfl rfl) ?_
            refine s_g rfl rfl rfl rfl rfl rfl ((by first | exact q_index_strN rfl Tryz.underlying9 rfl rfl (by omega) | exact q_index_str rfl Tryz.underlying9 rfl rfl (by omega))) ?_
            refine s_g rfl rfl rfl rfl rfl rfl (q_eql_u8c rfl rfl rfl rfl) ?_
            exact s_val rfl
          ) (wanted_g rfl rfl rfl rfl) rfl rfl rfl ?_
        exact s_val rfl
      ) (wanted_n rfl) rfl rfl rfl ?_
    refine s_done ?_
    refine n_then ?_
    refine t_cond rfl (fun hc1 => ?_) (fun hc1 => ?_)
    · skip
      refine t_seq ?_
      refine t_region ?_
      refine l_q rfl rfl rfl (q_assign rfl rfl) ?_
      refine l_nil ?_
      refine n_then ?_
      refine t_ret ?_
      refine n_ret_then ?_
      refine n_ret1 rfl rfl (fun w' hw => ?_)
      -- leaf 0
      exact ⟨rfl, hw.below⟩
    · skip
      rw [Bool.or_eq_false_iff, decide_eq_false_iff_not] at hc1
      have hlen : v.length + wt.length ≤ 300 := by omega
      have hw3 : wt.length ≤ 300 := by omega
      have hv3 : v.length ≤ 300 := by omega
      have hpc : v ≠ [] → nth v 0 0 ≠ 37 := fun h9 h8 => by have h7 := hc1.2; rw [decide_eq_true h9] at h7; exact absurd h8 (by simpa using h7)
      refine t_skip ?_
      refine n_then ?_
      refine t_seq ?_
      refine t_region ?_
      refine l_q rfl rfl rfl (q_build (pl := [(_, _), (_, _), (_, _), (_, _)]) (cs := #[_, _, _, _]) rfl Tryz.underlying26 ti26 ⟨rfl, ⟨_, _, ti23⟩, rfl, ⟨_, _, ti24⟩, rfl, ⟨_, _, ti24⟩, rfl, ⟨_, _, ti24⟩, trivial⟩ rfl rfl) ?_
      refine l_e rfl rfl rfl (e_alloc rfl ti26 rfl) ?_
      rintro _ _ _ ⟨b7, rfl, rfl, rfl⟩
      refine l_e0 rfl rfl ((by first | exact e_store_all rfl ti26 rfl rfl rfl (by first | exact chC_ones _ | exact pcC_ones _ | simp [Value.oneCell', str, u8]) rfl | exact e_store_agg rfl ti26 rfl rfl rfl (by first | exact chC_ones _ | exact pcC_ones _ | simp [Value.oneCell', str, u8]) rfl)) ?_
      rintro _ _ _ ⟨rfl, rfl⟩
      refine l_heap (H' := row b7 26 [nilV, nilV, nilV, nilV] :: _) ?_ (fun _ h => h)
      refine l_nil ?_
      refine n_then ?_
      refine t_cutE (ι := Value × Look) (fun zz => Le (look w) zz.2 ∧ Sl zz.2 5 zz.1 ((varsOf (if has = true then some v else none)).map vrC)) (fun zz => []) [(0, _), (1, _), (2, _), (6, _), (13, _), (28, _), (7, _)] (fun zz => zz.2) (fun zz => [row b7 26 [zz.1, nilV, nilV, nilV]]) (sub_cons rfl (sub_cons rfl (sub_cons rfl (sub_cons rfl (sub_cons rfl (sub_cons rfl (sub_cons rfl sub_nil))))))) ?_ ?_
      · skip
        refine t_seq ?_
        refine t_region ?_
        refine l_q rfl rfl rfl (q_move rfl rfl) ?_
        refine l_nil ?_
        refine n_then ?_
        refine t_cond rfl (fun hc2 => ?_) (fun hc2 => ?_)
        · skip
          refine t_region ?_
          refine l_q rfl rfl rfl (q_move rfl rfl) ?_
          refine l_q rfl rfl rfl (q_build (pl := [(_, _), (_, _), (_, _), (_, _), (_, _)]) (cs := (vrC (xV v)).toArray) rfl Tryz.underlying28 ti28 ⟨rfl, ⟨_, _, ti9⟩, rfl, ⟨_, _, ti9⟩, rfl, ⟨_, _, ti4⟩, rfl, ⟨_, _, ti4⟩, rfl, ⟨_, _, ti4⟩, trivial⟩ rfl rfl) ?_
          refine l_e rfl rfl rfl (e_buildSlice1 rfl Tryz.underlying23 ti28 rfl rfl rfl (by first | exact One.cells (by assumption) | rfl) rfl) ?_
          rintro _ _ _ ⟨b33, rfl, rfl, rfl⟩
          refine l_freezeRow b33 (fun J33 hJ33 hk33 => ?_)
          have hv33 := sl_row (f := vrC) (sz := 5) [xV v] hk33 rfl rfl (fun _ => rfl)
          refine l_q rfl rfl rfl (q_fieldAddr rfl Tryz.underlying26 rfl rfl ti23 rfl rfl) ?_
          refine l_e0 rfl rfl (e_storeS rfl ti23 rfl rfl (by first | exact ⟨rfl, rfl⟩ | assumption) rfl (by first | (simp only [List.set_cons_succ, List.set_cons_zero]; rfl) | rfl)) ?_
          rintro _ _ _ ⟨rfl, rfl⟩
          refine l_heap (H' := row b7 26 [.slice (some ⟨b33, 0, none⟩) 1 1, nilV, nilV, nilV] :: _) ?_ (fun _ h => h)
          refine l_nil ?_
          refine n_cut ((.slice (some ⟨b33, 0, none⟩) 1 1, J33)) ?_ (sub_nil) (sub_cons rfl (sub_cons rfl (sub_cons rfl (sub_cons rfl (sub_cons rfl (sub_cons rfl (sub_cons rfl sub_nil))))))) (fun _ h => by try dsimp only; exact subC_st h)
          · try dsimp only
            exact ⟨hJ33, by rw [if_pos hc2]; exact hv33⟩
        · skip
          refine t_skip ?_
          refine n_cut ((nilV, look w)) ?_ (sub_nil) (sub_cons rfl (sub_cons rfl (sub_cons rfl (sub_cons rfl (sub_cons rfl (sub_cons rfl (sub_cons rfl sub_nil))))))) (fun _ h => by try dsimp only; exact subC_st h)
          · try dsimp only
            exact ⟨Le.refl _, by rw [if_neg (by rw [hc2]; simp)]; exact sl_nilT⟩
      rintro ⟨vv, J⟩ ⟨hJ, hv0⟩
      try dsimp only at *
      refine t_seq ?_
      refine t_region ?_
      refine l_q rfl rfl rfl (q_move rfl rfl) ?_
      refine l_q rfl rfl rfl (quiet_call rfl rfl rfl Tryz.func8 (by kernel_rfl) rfl ((fun w hw => quote_pure wt w (by omega) (hG.mono (hJ.trans hw.le))))) ?_
      refine l_q rfl rfl rfl (q_assign rfl rfl) ?_
      refine l_nil ?_
      refine n_then ?_
      refine t_seq ?_
      refine t_region ?_
      refine l_q rfl rfl rfl (q_makeFunc rfl rfl rfl) ?_
      refine l_q rfl rfl rfl (q_assign rfl rfl) ?_
      refine l_nil ?_
      refine n_then ?_
      refine t_seq ?_
      refine t_seq ?_
      refine t_region ?_
      refine l_q rfl rfl rfl (q_move rfl rfl) ?_
      refine l_q rfl rfl rfl (q_not rfl rfl) ?_
      refine l_nil ?_
      refine n_then ?_
      refine t_cond rfl (fun hc3 => ?_) (fun hc3 => ?_)
      · skip
        obtain rfl : has = false := by rw [Bool.not_eq_true'] at hc3; exact hc3
        refine t_seq ?_
        refine t_qreg ?_
        refine s_q rfl rfl rfl (q_move rfl rfl) ?_
        refine s_q rfl rfl rfl (q_move rfl rfl) ?_
        refine s_q rfl rfl rfl (q_cat rfl rfl rfl (by first | omega | (simp only [List.length_append, List.length_cons, List.length_nil, List.length_take, List.length_drop]; omega))) ?_
        refine s_q rfl rfl rfl (q_cat rfl rfl rfl (by first | omega | (simp only [List.length_append, List.length_cons, List.length_nil, List.length_take, List.length_drop]; omega))) ?_
        refine s_q rfl rfl rfl (quiet_callC (cs := [.pointer (some ⟨b7, 0, none⟩)]) rfl rfl rfl rfl rfl Tryz.func9 (by kernel_rfl) rfl ((fun w hw => oneP_pure (none) (by first | exact hv3 | simp) b7 vv _ _ (ok_dash0 hw3) w (hG.mono (hJ.trans hw.le)) (rowed_of hw) (hv0.mono hw.le)))) ?_
        refine s_q rfl rfl rfl (q_move rfl rfl) ?_
        refine s_q rfl rfl rfl (q_eql_str rfl rfl rfl) ?_
        refine s_q rfl rfl rfl (q_move rfl rfl) ?_
        refine s_and2 7 7 47 55 54 _ _ rfl rfl rfl rfl rfl rfl (fun h55 => by
            try simp at h55
            refine s_g rfl rfl rfl rfl rfl rfl (q_move rfl rfl) ?_
            refine s_g rfl rfl rfl rfl rfl rfl (q_move rfl rfl) ?_
            refine s_g rfl rfl rfl rfl rfl rfl (q_cat rfl rfl rfl (by first | omega | (simp only [List.length_append, List.length_cons, List.length_nil, List.length_take, List.length_drop]; omega))) ?_
            refine s_g rfl rfl rfl rfl rfl rfl (q_cat rfl rfl rfl (by first | omega | (simp only [List.length_append, List.length_cons, List.length_nil, List.length_take, List.length_drop]; omega))) ?_
            refine s_g rfl rfl rfl rfl rfl rfl (quiet_callC (cs := [.pointer (some ⟨b7, 0, none⟩)]) rfl rfl rfl rfl rfl Tryz.func9 (by kernel_rfl) rfl ((fun w hw => oneP_pure (none) (by first | exact hv3 | simp) b7 vv _ _ (ok_cdash0 hw3) w (hG.mono (hJ.trans hw.le)) (rowed_of hw) (hv0.mono hw.le)))) ?_
            refine s_g rfl rfl rfl rfl rfl rfl (q_move rfl rfl) ?_
            refine s_g rfl rfl rfl rfl rfl rfl (q_eql_str rfl rfl rfl) ?_
            exact s_val rfl
          ) (wanted_n rfl) rfl rfl rfl ?_
        refine s_q rfl rfl rfl (q_move rfl rfl) ?_
        refine s_and2 6 16 56 63 62 _ _ rfl rfl rfl rfl rfl rfl (fun h63 => by
            try simp at h63
            refine s_g rfl rfl rfl rfl rfl rfl (q_move rfl rfl) ?_
            refine s_g rfl rfl rfl rfl rfl rfl (q_move rfl rfl) ?_
            refine s_g rfl rfl rfl rfl rfl rfl (q_cat rfl rfl rfl (by first | omega | (simp only [List.length_append, List.length_cons, List.length_nil, List.length_take, List.length_drop]; omega))) ?_
            refine s_g rfl rfl rfl rfl rfl rfl (q_cat rfl rfl rfl (by first | omega | (simp only [List.length_append, List.length_cons, List.length_nil, List.length_take, List.length_drop]; omega))) ?_
            refine s_g rfl rfl rfl rfl rfl rfl (quiet_callC (cs := [.pointer (some ⟨b7, 0, none⟩)]) rfl rfl rfl rfl rfl Tryz.func9 (by kernel_rfl) rfl ((fun w hw => oneP_pure (none) (by first | exact hv3 | simp) b7 vv _ _ (ok_plus0 hw3) w (hG.mono (hJ.trans hw.le)) (rowed_of hw) (hv0.mono hw.le)))) ?_
            refine s_g rfl rfl rfl rfl rfl rfl (q_eql_str rfl rfl rfl) ?_
            exact s_val rfl
          ) (wanted_n rfl) rfl rfl rfl ?_
        refine s_q rfl rfl rfl (q_move rfl rfl) ?_
        refine s_and2 6 24 64 71 70 _ _ rfl rfl rfl rfl rfl rfl (fun h71 => by
            try simp at h71
            refine s_g rfl rfl rfl rfl rfl rfl (q_move rfl rfl) ?_
            refine s_g rfl rfl rfl rfl rfl rfl (q_move rfl rfl) ?_
            refine s_g rfl rfl rfl rfl rfl rfl (q_cat rfl rfl rfl (by first | omega | (simp only [List.length_append, List.length_cons, List.length_nil, List.length_take, List.length_drop]; omega))) ?_
            refine s_g rfl rfl rfl rfl rfl rfl (q_cat rfl rfl rfl (by first | omega | (simp only [List.length_append, List.length_cons, List.length_nil, List.length_take, List.length_drop]; omega))) ?_
            refine s_g rfl rfl rfl rfl rfl rfl (quiet_callC (cs := [.pointer (some ⟨b7, 0, none⟩)]) rfl rfl rfl rfl rfl Tryz.func9 (by kernel_rfl) rfl ((fun w hw => oneP_pure (none) (by first | exact hv3 | simp) b7 vv _ _ (ok_cplus0 hw3) w (hG.mono (hJ.trans hw.le)) (rowed_of hw) (hv0.mono hw.le)))) ?_
            refine s_g rfl rfl rfl rfl rfl rfl (q_eql_str rfl rfl rfl) ?_
            exact s_val rfl
          ) (wanted_n rfl) rfl rfl rfl ?_
        refine s_q rfl rfl rfl (q_move rfl rfl) ?_
        refine s_and2 3 32 72 76 75 _ _ rfl rfl rfl rfl rfl rfl (fun h76 => by
            try simp at h76
            refine s_g rfl rfl rfl rfl rfl rfl (q_move rfl rfl) ?_
            refine s_g rfl rfl rfl rfl rfl rfl (quiet_callC (cs := [.pointer (some ⟨b7, 0, none⟩)]) rfl rfl rfl rfl rfl Tryz.func9 (by kernel_rfl) rfl ((fun w hw => oneP_pure (none) (by first | exact hv3 | simp) b7 vv _ _ (ok_len (x := none) (by simp)) w (hG.mono (hJ.trans hw.le)) (rowed_of hw) (hv0.mono hw.le)))) ?_
            refine s_g rfl rfl rfl rfl rfl rfl (q_eql_str rfl rfl rfl) ?_
            exact s_val rfl
          ) (wanted_n rfl) rfl rfl rfl ?_
        refine s_q rfl rfl rfl (q_move rfl rfl) ?_
        refine s_and2 3 37 77 81 80 _ _ rfl rfl rfl rfl rfl rfl (fun h81 => by
            try simp at h81
            refine s_g rfl rfl rfl rfl rfl rfl (q_move rfl rfl) ?_
            refine s_g rfl rfl rfl rfl rfl rfl (quiet_callC (cs := [.pointer (some ⟨b7, 0, none⟩)]) rfl rfl rfl rfl rfl Tryz.func9 (by kernel_rfl) rfl ((fun w hw => oneP_pure (none) (by first | exact hv3 | simp) b7 vv _ _ (ok_pln (x := none) (by simp)) w (hG.mono (hJ.trans hw.le)) (rowed_of hw) (hv0.mono hw.le)))) ?_
            refine s_g rfl rfl rfl rfl rfl rfl (q_eql_str rfl rfl rfl) ?_
            exact s_val rfl
          ) (wanted_n rfl) rfl rfl rfl ?_
        refine s_q rfl rfl rfl (q_move rfl rfl) ?_
        refine s_and2 9 42 82 92 91 _ _ rfl rfl rfl rfl rfl rfl (fun h92 => by
            try simp at h92
            refine s_g rfl rfl rfl rfl rfl rfl (q_move rfl rfl) ?_
            refine s_g rfl rfl rfl rfl rfl rfl (q_move rfl rfl) ?_
            refine s_g rfl rfl rfl rfl rfl rfl (q_cat rfl rfl rfl (by first | omega | (simp only [List.length_append, List.length_cons, List.length_nil, List.length_take, List.length_drop]; omega))) ?_
            refine s_g rfl rfl rfl rfl rfl rfl (q_cat rfl rfl rfl (by first | omega | (simp only [List.length_append, List.length_cons, List.length_nil, List.length_take, List.length_drop]; omega))) ?_
            refine s_g rfl rfl rfl rfl rfl rfl (quiet_callC (cs := [.pointer (some ⟨b7, 0, none⟩)]) rfl rfl rfl rfl rfl Tryz.func9 (by kernel_rfl) rfl ((fun w hw => oneP_pure (none) (by first | exact hv3 | simp) b7 vv _ _ (ok_set hw3) w (hG.mono (hJ.trans hw.le)) (rowed_of hw) (hv0.mono hw.le)))) ?_
            refine s_g rfl rfl rfl rfl rfl rfl (q_move rfl rfl) ?_
            refine s_g rfl rfl rfl rfl rfl rfl (q_move rfl rfl) ?_
            refine s_g rfl rfl rfl rfl rfl rfl (q_cat rfl rfl rfl (by first | omega | (simp only [List.length_append, List.length_cons, List.length_nil, List.length_take, List.length_drop]; omega))) ?_
            refine s_g rfl rfl rfl rfl rfl rfl (q_eql_str rfl rfl rfl) ?_
            exact s_val rfl
          ) (wanted_n rfl) rfl rfl rfl ?_
        refine s_q rfl rfl rfl (q_assign rfl rfl) ?_
        refine s_done ?_
        refine n_then ?_
        refine t_ret ?_
        refine n_ret_then ?_
        refine n_ret1 rfl rfl (fun w' hw => ?_)
        -- leaf 1
        refine ⟨?_, (hw.less hJ).below⟩
        simp [*, itoa0]
      · skip
        obtain rfl : has = true := by rw [Bool.not_eq_false'] at hc3; exact hc3
        refine t_skip ?_
        refine n_then ?_
        refine t_seq ?_
        refine t_region ?_
        refine l_q rfl rfl rfl (q_move rfl rfl) ?_
        refine l_q rfl rfl rfl (q_len_str rfl Tryz.underlying9 rfl) ?_
        refine l_q rfl rfl rfl (quiet_call rfl rfl rfl Tryz.func12 (by kernel_rfl) rfl ((fun w hw => decimal_pure (v.length : Int) w (by omega) (hG.mono (hJ.trans hw.le)).gw))) ?_
        refine l_q rfl rfl rfl (q_assign rfl rfl) ?_
        refine l_nil ?_
        refine n_then ?_
        refine t_seq ?_
        refine t_seq ?_
        refine t_qreg ?_
        refine s_q rfl rfl rfl (q_move rfl rfl) ?_
        refine s_q rfl rfl rfl (quiet_callC (cs := [.pointer (some ⟨b7, 0, none⟩)]) rfl rfl rfl rfl rfl Tryz.func9 (by kernel_rfl) rfl ((fun w hw => oneP_pure (some v) (by first | exact hv3 | simp) b7 vv _ _ (ok_pln (x := some v) hv3) w (hG.mono (hJ.trans hw.le)) (rowed_of hw) (hv0.mono hw.le)))) ?_
        refine s_q rfl rfl rfl (q_move rfl rfl) ?_
        refine s_q rfl rfl rfl (q_neq_str rfl rfl rfl) ?_
        refine s_q rfl rfl rfl (q_move rfl rfl) ?_
        refine s_or2 4 4 100 105 104 _ _ rfl rfl rfl rfl rfl rfl (fun h105 => by
            try simp at h105
            refine s_g rfl rfl rfl rfl rfl rfl (q_move rfl rfl) ?_
            refine s_g rfl rfl rfl rfl rfl rfl (quiet_callC (cs := [.pointer (some ⟨b7, 0, none⟩)]) rfl rfl rfl rfl rfl Tryz.func9 (by kernel_rfl) rfl ((fun w hw => oneP_pure (some v) (by first | exact hv3 | simp) b7 vv _ _ (ok_dbl (x := some v) hv3) w (hG.mono (hJ.trans hw.le)) (rowed_of hw) (hv0.mono hw.le)))) ?_
            refine s_g rfl rfl rfl rfl rfl rfl (q_move rfl rfl) ?_
            refine s_g rfl rfl rfl rfl rfl rfl (q_neq_str rfl rfl rfl) ?_
            exact s_val rfl
          ) (wanted_n rfl) rfl rfl rfl ?_
        refine s_q rfl rfl rfl (q_move rfl rfl) ?_
        refine s_or2 4 10 106 111 110 _ _ rfl rfl rfl rfl rfl rfl (fun h111 => by
            try simp at h111
            refine s_g rfl rfl rfl rfl rfl rfl (q_move rfl rfl) ?_
            refine s_g rfl rfl rfl rfl rfl rfl (quiet_callC (cs := [.pointer (some ⟨b7, 0, none⟩)]) rfl rfl rfl rfl rfl Tryz.func9 (by kernel_rfl) rfl ((fun w hw => oneP_pure (some v) (by first | exact hv3 | simp) b7 vv _ _ (ok_len (x := some v) hv3) w (hG.mono (hJ.trans hw.le)) (rowed_of hw) (hv0.mono hw.le)))) ?_
            refine s_g rfl rfl rfl rfl rfl rfl (q_move rfl rfl) ?_
            refine s_g rfl rfl rfl rfl rfl rfl (q_neq_str rfl rfl rfl) ?_
            exact s_val rfl
          ) (wanted_n rfl) rfl rfl rfl ?_
        refine s_q rfl rfl rfl (q_move rfl rfl) ?_
        refine s_or2 7 16 112 120 119 _ _ rfl rfl rfl rfl rfl rfl (fun h120 => by
            try simp at h120
            refine s_g rfl rfl rfl rfl rfl rfl (q_move rfl rfl) ?_
            refine s_g rfl rfl rfl rfl rfl rfl (q_move rfl rfl) ?_
            refine s_g rfl rfl rfl rfl rfl rfl (q_cat rfl rfl rfl (by first | omega | (simp only [List.length_append, List.length_cons, List.length_nil, List.length_take, List.length_drop]; omega))) ?_
            refine s_g rfl rfl rfl rfl rfl rfl (q_cat rfl rfl rfl (by first | omega | (simp only [List.length_append, List.length_cons, List.length_nil, List.length_take, List.length_drop]; omega))) ?_
            refine s_g rfl rfl rfl rfl rfl rfl (quiet_callC (cs := [.pointer (some ⟨b7, 0, none⟩)]) rfl rfl rfl rfl rfl Tryz.func9 (by kernel_rfl) rfl ((fun w hw => oneP_pure (some v) (by first | exact hv3 | simp) b7 vv _ _ (ok_dash1 hw3 hv3) w (hG.mono (hJ.trans hw.le)) (rowed_of hw) (hv0.mono hw.le)))) ?_
            refine s_g rfl rfl rfl rfl rfl rfl (q_move rfl rfl) ?_
            refine s_g rfl rfl rfl rfl rfl rfl (q_neq_str rfl rfl rfl) ?_
            exact s_val rfl
          ) (wanted_n rfl) rfl rfl rfl ?_
        refine s_q rfl rfl rfl (q_move rfl rfl) ?_
        refine s_or2 7 25 121 129 128 _ _ rfl rfl rfl rfl rfl rfl (fun h129 => by
            try simp at h129
            refine s_g rfl rfl rfl rfl rfl rfl (q_move rfl rfl) ?_
            refine s_g rfl rfl rfl rfl rfl rfl (q_move rfl rfl) ?_
            refine s_g rfl rfl rfl rfl rfl rfl (q_cat rfl rfl rfl (by first | omega | (simp only [List.length_append, List.length_cons, List.length_nil, List.length_take, List.length_drop]; omega))) ?_
            refine s_g rfl rfl rfl rfl rfl rfl (q_cat rfl rfl rfl (by first | omega | (simp only [List.length_append, List.length_cons, List.length_nil, List.length_take, List.length_drop]; omega))) ?_
            refine s_g rfl rfl rfl rfl rfl rfl (quiet_callC (cs := [.pointer (some ⟨b7, 0, none⟩)]) rfl rfl rfl rfl rfl Tryz.func9 (by kernel_rfl) rfl ((fun w hw => oneP_pure (some v) (by first | exact hv3 | simp) b7 vv _ _ (ok_plus1 hw3 hv3) w (hG.mono (hJ.trans hw.le)) (rowed_of hw) (hv0.mono hw.le)))) ?_
            refine s_g rfl rfl rfl rfl rfl rfl (q_move rfl rfl) ?_
            refine s_g rfl rfl rfl rfl rfl rfl (q_neq_str rfl rfl rfl) ?_
            exact s_val rfl
          ) (wanted_n rfl) rfl rfl rfl ?_
        refine s_done ?_
        refine n_then ?_
        refine t_cond rfl (fun hc4 => ?_) (fun hc4 => ?_)
        · skip
          simp at hc4
        · skip
          refine t_skip ?_
          refine n_then ?_
          refine t_seq ?_
          refine t_seq ?_
          refine t_region ?_
          refine l_q rfl rfl rfl (q_move rfl rfl) ?_
          refine l_q rfl rfl rfl (q_eql_str rfl rfl rfl) ?_
          refine l_nil ?_
          refine n_then ?_
          refine t_cond rfl (fun hc5 => ?_) (fun hc5 => ?_)
          · skip
            have hv00 := of_decide_eq_true hc5
            refine t_seq ?_
            refine t_qreg ?_
            refine s_q rfl rfl rfl (q_move rfl rfl) ?_
            refine s_q rfl rfl rfl (q_move rfl rfl) ?_
            refine s_q rfl rfl rfl (q_cat rfl rfl rfl (by first | omega | (simp only [List.length_append, List.length_cons, List.length_nil, List.length_take, List.length_drop]; omega))) ?_
            refine s_q rfl rfl rfl (q_cat rfl rfl rfl (by first | omega | (simp only [List.length_append, List.length_cons, List.length_nil, List.length_take, List.length_drop]; omega))) ?_
            refine s_q rfl rfl rfl (quiet_callC (cs := [.pointer (some ⟨b7, 0, none⟩)]) rfl rfl rfl rfl rfl Tryz.func9 (by kernel_rfl) rfl ((fun w hw => oneP_pure (some v) (by first | exact hv3 | simp) b7 vv _ _ (ok_cdash1 hw3 hv3) w (hG.mono (hJ.trans hw.le)) (rowed_of hw) (hv0.mono hw.le)))) ?_
            refine s_q rfl rfl rfl (q_move rfl rfl) ?_
            refine s_q rfl rfl rfl (q_eql_str rfl rfl rfl) ?_
            refine s_q rfl rfl rfl (q_move rfl rfl) ?_
            refine s_and2 6 7 139 146 145 _ _ rfl rfl rfl rfl rfl rfl (fun h146 => by
                try simp at h146
                refine s_g rfl rfl rfl rfl rfl rfl (q_move rfl rfl) ?_
                refine s_g rfl rfl rfl rfl rfl rfl (q_move rfl rfl) ?_
                refine s_g rfl rfl rfl rfl rfl rfl (q_cat rfl rfl rfl (by first | omega | (simp only [List.length_append, List.length_cons, List.length_nil, List.length_take, List.length_drop]; omega))) ?_
                refine s_g rfl rfl rfl rfl rfl rfl (q_cat rfl rfl rfl (by first | omega | (simp only [List.length_append, List.length_cons, List.length_nil, List.length_take, List.length_drop]; omega))) ?_
                refine s_g rfl rfl rfl rfl rfl rfl (quiet_callC (cs := [.pointer (some ⟨b7, 0, none⟩)]) rfl rfl rfl rfl rfl Tryz.func9 (by kernel_rfl) rfl ((fun w hw => oneP_pure (some v) (by first | exact hv3 | simp) b7 vv _ _ (ok_cplus1 hw3 hv3) w (hG.mono (hJ.trans hw.le)) (rowed_of hw) (hv0.mono hw.le)))) ?_
                refine s_g rfl rfl rfl rfl rfl rfl (q_eql_str rfl rfl rfl) ?_
                exact s_val rfl
              ) (wanted_n rfl) rfl rfl rfl ?_
            refine s_q rfl rfl rfl (q_assign rfl rfl) ?_
            refine s_done ?_
            refine n_then ?_
            refine t_ret ?_
            refine n_ret_then ?_
            refine n_ret1 rfl rfl (fun w' hw => ?_)
            -- leaf 2
            refine ⟨?_, (hw.less hJ).below⟩
            simp [*, itoa0]
          · skip
            have hv00 := of_decide_eq_false hc5
            refine t_skip ?_
            refine n_then ?_
            refine t_seq ?_
            refine t_region ?_
            refine l_q rfl rfl rfl (q_move rfl rfl) ?_
            refine l_q rfl rfl rfl (q_assign rfl rfl) ?_
            refine l_nil ?_
            refine n_then ?_
            refine t_cutE (ι := Unit) (fun _ => True) (fun _ => [(11, str (if v.take wt.length = wt then v.drop wt.length else v))]) [(0, _), (1, _), (2, _), (6, _), (13, _), (28, _), (7, _), (8, _), (9, _), (39, _), (10, _), (129, _), (131, _)] (fun _ => J) (fun _ => [row b7 26 [vv, nilV, nilV, nilV]]) (sub_cons rfl (sub_cons rfl (sub_cons rfl (sub_cons rfl (sub_cons rfl (sub_cons rfl (sub_cons rfl (sub_cons rfl (sub_cons rfl (sub_cons rfl (sub_cons rfl (sub_cons rfl (sub_cons rfl sub_nil))))))))))))) ?_ ?_
            · skip
              refine t_seq ?_
              refine t_qreg ?_
              refine s_q rfl rfl rfl (q_move rfl rfl) ?_
              refine s_q rfl rfl rfl (q_len_str rfl Tryz.underlying9 rfl) ?_
              refine s_q rfl rfl rfl (q_move rfl rfl) ?_
              refine s_q rfl rfl rfl (q_len_str rfl Tryz.underlying9 rfl) ?_
              refine s_q rfl rfl rfl (q_leq rfl rfl rfl) ?_
              refine s_q rfl rfl rfl (q_move rfl rfl) ?_
              refine s_and2 6 5 153 160 159 _ _ rfl rfl rfl rfl rfl rfl (fun h160 => by
                  try simp at h160
                  refine s_g rfl rfl rfl rfl rfl rfl (q_move rfl rfl) ?_
                  refine s_g rfl rfl rfl rfl rfl rfl (q_move rfl rfl) ?_
                  refine s_g rfl rfl rfl rfl rfl rfl (q_len_str rfl Tryz.underlying9 rfl) ?_
                  refine s_g rfl rfl rfl rfl rfl rfl (q_slice_str_to rfl Tryz.underlying9 rfl rfl (by omega)) ?_
                  refine s_g rfl rfl rfl rfl rfl rfl (q_move rfl rfl) ?_
                  refine s_g rfl rfl rfl rfl rfl rfl (q_eql_str rfl rfl rfl) ?_
                  exact s_val rfl
                ) (wanted_n rfl) rfl rfl rfl ?_
              refine s_done ?_
              refine n_then ?_
              refine t_cond rfl (fun hc6 => ?_) (fun hc6 => ?_)
              · skip
                have hcp : v.take wt.length = wt := by rw [Bool.and_eq_true, decide_eq_true_eq, decide_eq_true_eq] at hc6; simpa using hc6.2
                have hle : wt.length ≤ v.length := by have := congrArg List.length hcp; rw [List.length_take] at this; omega
                refine t_region ?_
                refine l_q rfl rfl rfl (q_move rfl rfl) ?_
                refine l_q rfl rfl rfl (q_move rfl rfl) ?_
                refine l_q rfl rfl rfl (q_len_str rfl Tryz.underlying9 rfl) ?_
                refine l_q rfl rfl rfl (q_slice_str_from rfl Tryz.underlying9 rfl rfl (by omega)) ?_
                refine l_q rfl rfl rfl (q_assign rfl rfl) ?_
                refine l_nil ?_
                refine n_cut (()) ?_ (sub_cons' rfl (by rw [if_pos (by simpa using hcp)]; simp) (sub_nil)) (sub_cons rfl (sub_cons rfl (sub_cons rfl (sub_cons rfl (sub_cons rfl (sub_cons rfl (sub_cons rfl (sub_cons rfl (sub_cons rfl (sub_cons rfl (sub_cons rfl (sub_cons rfl (sub_cons rfl sub_nil))))))))))))) (fun _ h => by try dsimp only; exact subC_st h)
                · trivial
              · skip
                have hcp : ¬ v.take wt.length = wt := fun h9 => by
                  have hle : wt.length ≤ v.length := by have := congrArg List.length h9; rw [List.length_take] at this; omega
                  have h8 := hc6
                  rw [decide_eq_true (show (wt.length : Int) ≤ (v.length : Int) by omega), Bool.true_and, decide_eq_false_iff_not] at h8
                  exact h8 (by simpa using h9)
                refine t_skip ?_
                refine n_cut (()) ?_ (sub_cons' rfl (by rw [if_neg hcp]) (sub_nil)) (sub_cons rfl (sub_cons rfl (sub_cons rfl (sub_cons rfl (sub_cons rfl (sub_cons rfl (sub_cons rfl (sub_cons rfl (sub_cons rfl (sub_cons rfl (sub_cons rfl (sub_cons rfl (sub_cons rfl sub_nil))))))))))))) (fun _ h => by try dsimp only; exact subC_st h)
                · trivial
            rintro _ _
            refine t_seq ?_
            refine t_qreg ?_
            refine s_q rfl rfl rfl (q_move rfl rfl) ?_
            refine s_q rfl rfl rfl (q_move rfl rfl) ?_
            refine s_q rfl rfl rfl (q_cat rfl rfl rfl (by first | omega | (simp only [List.length_append, List.length_cons, List.length_nil, List.length_take, List.length_drop]; omega))) ?_
            refine s_q rfl rfl rfl (q_cat rfl rfl rfl (by first | omega | (simp only [List.length_append, List.length_cons, List.length_nil, List.length_take, List.length_drop]; omega))) ?_
            refine s_q rfl rfl rfl (quiet_callC (cs := [.pointer (some ⟨b7, 0, none⟩)]) rfl rfl rfl rfl rfl Tryz.func9 (by kernel_rfl) rfl ((fun w hw => oneP_pure (some v) (by first | exact hv3 | simp) b7 vv _ _ (ok_cdash1 hw3 hv3) w (hG.mono (hJ.trans hw.le)) (rowed_of hw) (hv0.mono hw.le)))) ?_
            refine s_q rfl rfl rfl (q_move rfl rfl) ?_
            refine s_q rfl rfl rfl (q_eql_str rfl rfl rfl) ?_
            refine s_q rfl rfl rfl (q_move rfl rfl) ?_
            refine s_and2 7 7 172 180 179 _ _ rfl rfl rfl rfl rfl rfl (fun h180 => by
                try simp at h180
                refine s_g rfl rfl rfl rfl rfl rfl (q_move rfl rfl) ?_
                refine s_g rfl rfl rfl rfl rfl rfl (q_move rfl rfl) ?_
                refine s_g rfl rfl rfl rfl rfl rfl (q_cat rfl rfl rfl (by first | omega | (simp only [List.length_append, List.length_cons, List.length_nil, List.length_take, List.length_drop]; omega))) ?_
                refine s_g rfl rfl rfl rfl rfl rfl (q_cat rfl rfl rfl (by first | omega | (simp only [List.length_append, List.length_cons, List.length_nil, List.length_take, List.length_drop]; omega))) ?_
                refine s_g rfl rfl rfl rfl rfl rfl (quiet_callC (cs := [.pointer (some ⟨b7, 0, none⟩)]) rfl rfl rfl rfl rfl Tryz.func9 (by kernel_rfl) rfl ((fun w hw => oneP_pure (some v) (by first | exact hv3 | simp) b7 vv _ _ (ok_cplus1 hw3 hv3) w (hG.mono (hJ.trans hw.le)) (rowed_of hw) (hv0.mono hw.le)))) ?_
                refine s_g rfl rfl rfl rfl rfl rfl (q_move rfl rfl) ?_
                refine s_g rfl rfl rfl rfl rfl rfl (q_eql_str rfl rfl rfl) ?_
                exact s_val rfl
              ) (wanted_n rfl) rfl rfl rfl ?_
            refine s_q rfl rfl rfl (q_move rfl rfl) ?_
            refine s_and2 7 16 181 189 188 _ _ rfl rfl rfl rfl rfl rfl (fun h189 => by
                try simp at h189
                refine s_g rfl rfl rfl rfl rfl rfl (q_move rfl rfl) ?_
                refine s_g rfl rfl rfl rfl rfl rfl (q_move rfl rfl) ?_
                refine s_g rfl rfl rfl rfl rfl rfl (q_cat rfl rfl rfl (by first | omega | (simp only [List.length_append, List.length_cons, List.length_nil, List.length_take, List.length_drop]; omega))) ?_
                refine s_g rfl rfl rfl rfl rfl rfl (q_cat rfl rfl rfl (by first | omega | (simp only [List.length_append, List.length_cons, List.length_nil, List.length_take, List.length_drop]; omega))) ?_
                refine s_g rfl rfl rfl rfl rfl rfl (quiet_callC (cs := [.pointer (some ⟨b7, 0, none⟩)]) rfl rfl rfl rfl rfl Tryz.func9 (by kernel_rfl) rfl ((fun w hw => oneP_pure (some v) (by first | exact hv3 | simp) b7 vv _ _ (ok_front hw3 hv3) w (hG.mono (hJ.trans hw.le)) (rowed_of hw) (hv0.mono hw.le)))) ?_
                refine s_g rfl rfl rfl rfl rfl rfl (q_move rfl rfl) ?_
                refine s_g rfl rfl rfl rfl rfl rfl (q_eql_str rfl rfl rfl) ?_
                exact s_val rfl
              ) (wanted_n rfl) rfl rfl rfl ?_
            refine s_q rfl rfl rfl (q_move rfl rfl) ?_
            refine s_and2 3 25 190 194 193 _ _ rfl rfl rfl rfl rfl rfl (fun h194 => by
                try simp at h194
                refine s_g rfl rfl rfl rfl rfl rfl (q_move rfl rfl) ?_
                refine s_g rfl rfl rfl rfl rfl rfl (quiet_callC (cs := [.pointer (some ⟨b7, 0, none⟩)]) rfl rfl rfl rfl rfl Tryz.func9 (by kernel_rfl) rfl ((fun w hw => oneP_pure (some v) (by first | exact hv3 | simp) b7 vv _ _ (ok_pct hv3) w (hG.mono (hJ.trans hw.le)) (rowed_of hw) (hv0.mono hw.le)))) ?_
                refine s_g rfl rfl rfl rfl rfl rfl (q_eql_str rfl rfl rfl) ?_
                exact s_val rfl
              ) (wanted_n rfl) rfl rfl rfl ?_
            refine s_q rfl rfl rfl (q_move rfl rfl) ?_
            refine s_and2 3 30 195 199 198 _ _ rfl rfl rfl rfl rfl rfl (fun h199 => by
                try simp at h199
                refine s_g rfl rfl rfl rfl rfl rfl (q_move rfl rfl) ?_
                refine s_g rfl rfl rfl rfl rfl rfl (quiet_callC (cs := [.pointer (some ⟨b7, 0, none⟩)]) rfl rfl rfl rfl rfl Tryz.func9 (by kernel_rfl) rfl ((fun w hw => oneP_pure (some v) (by first | exact hv3 | simp) b7 vv _ _ (ok_shp hv3) w (hG.mono (hJ.trans hw.le)) (rowed_of hw) (hv0.mono hw.le)))) ?_
                refine s_g rfl rfl rfl rfl rfl rfl (q_eql_str rfl rfl rfl) ?_
                exact s_val rfl
              ) (wanted_n rfl) rfl rfl rfl ?_
            refine s_q rfl rfl rfl (q_move rfl rfl) ?_
            refine s_and2 7 35 200 208 207 _ _ rfl rfl rfl rfl rfl rfl (fun h208 => by
                try simp at h208
                refine s_g rfl rfl rfl rfl rfl rfl (q_move rfl rfl) ?_
                refine s_g rfl rfl rfl rfl rfl rfl (q_move rfl rfl) ?_
                refine s_g rfl rfl rfl rfl rfl rfl (quiet_call rfl rfl rfl Tryz.func8 (by kernel_rfl) rfl ((fun w hw => quote_pure v w (by omega) (hG.mono (hJ.trans hw.le))))) ?_
                refine s_g rfl rfl rfl rfl rfl rfl (q_cat rfl rfl rfl (by first | omega | (simp only [List.length_append, List.length_cons, List.length_nil, List.length_take, List.length_drop]; omega))) ?_
                refine s_g rfl rfl rfl rfl rfl rfl (q_cat rfl rfl rfl (by first | omega | (simp only [List.length_append, List.length_cons, List.length_nil, List.length_take, List.length_drop]; omega))) ?_
                refine s_g rfl rfl rfl rfl rfl rfl (quiet_callC (cs := [.pointer (some ⟨b7, 0, none⟩)]) rfl rfl rfl rfl rfl Tryz.func9 (by kernel_rfl) rfl ((fun w hw => oneP_pure (some v) (by first | exact hv3 | simp) b7 vv _ _ (ok_back hv3 hpc) w (hG.mono (hJ.trans hw.le)) (rowed_of hw) (hv0.mono hw.le)))) ?_
                refine s_g rfl rfl rfl rfl rfl rfl (q_eql_str rfl rfl rfl) ?_
                exact s_val rfl
              ) (wanted_n rfl) rfl rfl rfl ?_
            refine s_q rfl rfl rfl (q_assign rfl rfl) ?_
            refine s_done ?_
            refine n_then ?_
            refine t_ret ?_
            refine n_ret1 rfl rfl (fun w' hw => ?_)
            -- leaf 3
            refine ⟨?_, (hw.less hJ).below⟩
            simp [*, itoa0]
end Go.Tri
