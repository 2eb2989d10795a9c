/-
  Fields of a word.
-/
import Derived.Test.YtbogmbdfjgnfaaaGreatDoorEE1
namespace Go.Tri
open Go.Proofs Go.RowKit
theorem ifs_pure (p : HP) (lv av : Value) (h : Hx) (w : World) (k : HostW w p lv av h) : Pure Tryz.prog 209 [.pointer (some ⟨p.hb, 0, none⟩), str [73, 70, 83]] w (.tuple #[str [], .bool false]) := hostParam_pure p lv av h [73, 70, 83] w ⟨by decide, by decide, by decide, by decide, by decide⟩ k
set_option maxRecDepth 10000 in
theorem fieldsx_calls (p : HP) (s : List UInt8) (l : List PT) (L0 : List Px) (hs : s.length ≤ 1000000000) (hpp : partsP s 0 = .ok l) (h hh : Hx) (hok : ∀ (v : Value) (I0 : Look) (mb : Nat), PlR I0 v l → PartsOk (v, false) I0 mb p h (.ok L0 hh)) (hst : ∀ x ∈ L0, x.st = false) (hL0 : L0.length ≤ 1000000000) (hpl : ∀ x ∈ L0, x.p.t.length ≤ 4611686018427387904) (htot : tot (L0.map Px.p) ≤ 20000) (hfo : okFields (fieldsAll (L0.map Px.p) ifsS) = true) (hwl : ∀ c ∈ (fieldsAll (L0.map Px.p) ifsS), wildP c = false) (lv av : Value) (I : Look) (F : List HA) (w0 w : World) (hG : EnvI I) (hi : HostI I p lv h) (hw0 : St w0 I (hostH p lv av h F) w) : Calls Tryz.prog 13 [.iface 33 (.pointer (some ⟨p.hb, 0, none⟩)), str s].toArray w (fun e1 w' => ∃ v, e1 = .returned v ∧ ∃ I' H', (Le I I' ∧ ∃ (lv av v1 : Value), v = .tuple #[v1, str [], .int .i64 0] ∧ H' = hostH p lv av hh F ∧ HostI I' p lv hh ∧ Sl I' 1 v1 (((fieldsAll (L0.map Px.p) ifsS).map chText).map svC)) ∧ St w I' H' w') := by
  obtain ⟨hfo1, hfo2⟩ := okFields_iff.1 hfo
  refine enterMN Tryz.func13 rfl Tryz.ntmps13 rfl (hw0.self) ?_
  refine t_seq ?_
  refine t_region ?_
  refine l_e rfl rfl rfl (e_box rfl rfl (by first | exact One.cells (by assumption) | exact One.cells hpx.one | exact One.cells hone | exact One.cells hvo.one | rfl)) ?_
  rintro _ _ _ ⟨b2, rfl, rfl, rfl⟩
  refine l_e rfl rfl rfl (e_alloc rfl ti24 rfl) ?_
  rintro _ _ _ ⟨b4, rfl, rfl, rfl⟩
  refine l_e rfl rfl rfl (e_alloc rfl ti9 rfl) ?_
  rintro _ _ _ ⟨b5, rfl, rfl, rfl⟩
  refine l_e rfl rfl rfl (e_alloc rfl ti30 rfl) ?_
  rintro _ _ _ ⟨b6, rfl, rfl, rfl⟩
  refine l_nil ?_
  refine n_then ?_
  refine t_seq ?_
  refine t_region ?_
  refine l_q rfl rfl rfl ((by first | exact q_load_row rfl Tryz.underlying59 rfl rfl (by rfl) | exact q_load rfl Tryz.underlying59 rfl rfl (rd_row1 (i := i) hfv (by omega)))) ?_
  refine l_q rfl rfl rfl (q_move rfl rfl) ?_
  refine l_e rfl rfl rfl (eff_call rfl rfl rfl Tryz.func22 (by kernel_rfl) rfl (fun w hw => expand_calls p s 0 l hs hpp h _ hok lv av I _ _ w hG hi (pick_host hw))) ?_
  rintro _ J22 _ ⟨hJ22, e, L, h2, lv2, av2, v22, rfl, rfl, hi2, hpx, hr⟩
  obtain ⟨he, hLe, hhe⟩ := hr
  have hLe := hLe.symm
  have hhe := hhe.symm
  subst he hLe hhe
  refine l_q rfl rfl rfl (q_move rfl rfl) ?_
  refine l_q rfl rfl rfl (q_extract rfl rfl rfl) ?_
  refine l_q rfl rfl rfl (q_extract rfl rfl rfl) ?_
  refine l_q rfl rfl rfl (q_extract rfl rfl rfl) ?_
  refine l_q rfl rfl rfl (q_assign rfl rfl) ?_
  refine l_q rfl rfl rfl (q_assign rfl rfl) ?_
  refine l_q rfl rfl rfl (q_assign rfl rfl) ?_
  refine l_nil ?_
  refine n_then ?_
  refine t_seq ?_
  refine t_seq ?_
  refine t_region ?_
  refine l_q rfl rfl rfl (q_move rfl rfl) ?_
  refine l_q rfl rfl rfl (q_neq rfl rfl rfl) ?_
  refine l_nil ?_
  refine n_then ?_
  refine t_cond rfl (fun hc0 => ?_) (fun hc0 => ?_)
  · skip
    exact absurd hc0 (by decide)
  · skip
    refine t_skip ?_
    refine n_then ?_
    refine t_seq ?_
    refine t_region ?_
    refine l_q rfl rfl rfl ((by first | exact q_load_row rfl Tryz.underlying59 rfl rfl (by rfl) | exact q_load rfl Tryz.underlying59 rfl rfl (rd_row1 (i := i) hfv (by omega)))) ?_
    refine l_q rfl rfl rfl (quiet_inv rfl rfl rfl meth_Param Tryz.func209 (by kernel_rfl) rfl ((fun w hw => ifs_pure p lv2 av2 hh w (hostW_of hi2 hw)))) ?_
    refine l_q rfl rfl rfl (q_move rfl rfl) ?_
    refine l_q rfl rfl rfl (q_extract rfl rfl rfl) ?_
    refine l_q rfl rfl rfl (q_extract rfl rfl rfl) ?_
    refine l_e rfl rfl rfl (e_alloc rfl ti9 rfl) ?_
    rintro _ _ _ ⟨b10, rfl, rfl, rfl⟩
    refine l_e0 rfl rfl (e_storeS rfl ti9 rfl rfl (by first | exact ⟨rfl, rfl⟩ | assumption | exact hpx.one | exact hone | exact hvo.one) rfl (by first | (simp only [List.set_cons_succ, List.set_cons_zero]; rfl) | rfl)) ?_
    rintro _ _ _ ⟨rfl, rfl⟩
    refine l_q rfl rfl rfl (q_assign rfl rfl) ?_
    refine l_nil ?_
    refine n_then ?_
    refine t_seq ?_
    refine t_seq ?_
    refine t_region ?_
    refine l_q rfl rfl rfl (q_move rfl rfl) ?_
    refine l_q rfl rfl rfl (q_not rfl rfl) ?_
    refine l_nil ?_
    refine n_then ?_
    refine t_cond rfl (fun hc1 => ?_) (fun hc1 => ?_)
    · skip
      refine t_region ?_
      refine l_e0 rfl rfl (e_storeS rfl ti9 rfl rfl (by first | exact ⟨rfl, rfl⟩ | assumption | exact hpx.one | exact hone | exact hvo.one) rfl (by first | (simp only [List.set_cons_succ, List.set_cons_zero]; rfl) | rfl)) ?_
      rintro _ _ _ ⟨rfl, rfl⟩
      refine l_heap (H' := row b10 9 [str ifsS] :: _) ?_ (fun _ h => h)
      refine l_nil ?_
      refine n_then ?_
      refine t_seq ?_
      refine t_region ?_
      refine l_e rfl rfl rfl (e_alloc rfl ti24 rfl) ?_
      rintro _ _ _ ⟨b12, rfl, rfl, rfl⟩
      refine l_nil ?_
      refine n_then ?_
      refine t_seq ?_
      refine t_seq ?_
      refine t_region ?_
      refine l_q rfl rfl rfl (q_move rfl rfl) ?_
      refine l_e rfl rfl rfl (eff_call rfl rfl rfl Tryz.func31 (by kernel_rfl) rfl (fun w hw => groups_calls v22 hpx.one _ _ _ w hw)) ?_
      rintro _ J38 _ ⟨hJ38, rfl, b38, rfl, hb38⟩
      refine l_nil ?_
      refine n_then ?_
      refine t_block ?_
      refine t_rangeV (γ := Value × List (List UInt8) × Look) (groups_iter L0 v22 b38 hst hL0) rfl rfl Tryz.func51 (by kernel_rfl) rfl (fun nn zz => Le J38 zz.2.2 ∧ zz.2.1 = if nn = 0 then [] else (fieldsAll (L0.map Px.p) ifsS).map chText) (fun _ _ => False) (hostH p lv2 av2 hh F) (fun zz TT => (row b12 24 [zz.1] :: tvec 9 1 svC zz.1 zz.2.1 :: row b10 9 [str ifsS] :: row b2 59 [.iface 33 (.pointer (some ⟨p.hb, 0, none⟩))] :: row b4 24 [.slice none 0 0] :: row b5 9 [str []] :: row b6 30 [.int .i64 0] :: TT)) (fun _ _ => rfl) (fun zz => zz.2.2) [(0, _), (1, _), (2, _), (4, _), (5, _), (6, _), (7, _), (8, _), (9, _), (27, _), (10, _), (11, _), (36, _), (12, _), (38, _)] (sub_cons rfl (sub_cons rfl (sub_cons rfl (sub_cons rfl (sub_cons rfl (sub_cons rfl (sub_cons rfl (sub_cons rfl (sub_cons rfl (sub_cons rfl (sub_cons rfl (sub_cons rfl (sub_cons rfl (sub_cons rfl (sub_cons rfl sub_nil))))))))))))))) (.slice none 0 0, [], J38) ?_ ?_ ?_ ?_ rfl ?_ ?_ ?_ (fun _ _ _ _ h => h.elim)
      · exact ⟨Le.refl _, rfl⟩
      · exact ⟨hb38, hpx.mono hJ38⟩
      · exact Le.refl _
      · exact fun _ h => subC_st (st_nilT 9 1 svC h)
      · rintro i J vs ⟨_, v, rfl, _⟩; rfl
      · intro bl ready busy done dfr nn vs gg JV w0r FF hi hinv hJV hrs hbz
        obtain ⟨vo, o, J⟩ := gg
        obtain ⟨hJl, ho⟩ := hinv
        try dsimp only at *
        obtain ⟨rfl, vg, rfl, hvg⟩ := hi
        obtain rfl : o = [] := ho
        refine t_region ?_
        refine l_q rfl rfl rfl (q_assign rfl rfl) ?_
        refine l_nil ?_
        refine n_begin (by rfl) hrs ?_
        refine t_block ?_
        refine t_seq ?_
        refine t_region ?_
        refine l_q rfl rfl rfl (q_move rfl rfl) ?_
        refine l_q rfl rfl rfl ((by first | exact q_load_row rfl Tryz.underlying9 rfl rfl (by rfl) | exact q_load rfl Tryz.underlying9 rfl rfl (rd_row1 (i := i) hfv (by omega)))) ?_
        refine l_e rfl rfl rfl (eff_call rfl rfl rfl Tryz.func32 (by kernel_rfl) rfl (fun w hw => fields_calls vg (L0.map Px.p) ifsS _ _ _ w (by rw [List.length_map]; omega) (fun x hx => by obtain ⟨y, hy, rfl⟩ := List.mem_map.1 hx; exact hpl y hy) htot hvg hw)) ?_
        rintro _ J43 _ ⟨hJ43, rfl, fv, err, rfl, hfok⟩
        rw [if_pos hfo] at hfok
        obtain ⟨rfl, us, hfv, hus⟩ := hfok
        have hul := hus.1
        refine l_q rfl rfl rfl (q_move rfl rfl) ?_
        refine l_q rfl rfl rfl (q_extract rfl rfl rfl) ?_
        refine l_q rfl rfl rfl (q_extract rfl rfl rfl) ?_
        refine l_q rfl rfl rfl (q_assign rfl rfl) ?_
        refine l_q rfl rfl rfl (q_assign rfl rfl) ?_
        refine l_nil ?_
        refine n_then ?_
        refine t_seq ?_
        refine t_seq ?_
        refine t_region ?_
        refine l_q rfl rfl rfl (q_move rfl rfl) ?_
        refine l_q rfl rfl rfl (q_neq rfl rfl rfl) ?_
        refine l_nil ?_
        refine n_then ?_
        refine t_cond rfl (fun hc2 => ?_) (fun hc2 => ?_)
        · skip
          exact absurd hc2 (by decide)
        · skip
          refine t_skip ?_
          refine n_then ?_
          refine t_seq ?_
          refine t_region ?_
          refine l_q rfl rfl rfl (q_move rfl rfl) ?_
          refine l_q rfl rfl rfl ((by first | exact q_lenV rfl Tryz.underlying80 rfl | exact q_len rfl Tryz.underlying80 rfl (⟨none, 0, rfl⟩) | exact q_len rfl Tryz.underlying80 rfl (Sl.lenOf hfv ((List.length_map _).trans hul)) | exact q_len rfl Tryz.underlying80 rfl (len_of hsho))) ?_
          refine l_q rfl rfl rfl (q_move rfl rfl) ?_
          refine l_nil ?_
          refine n_then ?_
          refine t_block ?_
          refine t_loopE (ι := Nat × Value) (fun zz => zz.1 ≤ (fieldsAll (L0.map Px.p) ifsS).length) (fun zz => (fieldsAll (L0.map Px.p) ifsS).length - zz.1) (fun zz => [(51, .int .i64 (zz.1 : Int))]) [(39, _), (0, _), (1, _), (2, _), (4, _), (5, _), (6, _), (7, _), (8, _), (9, _), (27, _), (10, _), (11, _), (36, _), (12, _), (38, _), (13, _), (14, _), (15, _), (47, _), (49, _), (50, _)] (fun zz => J43) (fun zz => (row b12 24 [zz.2] :: tvec 9 1 svC zz.2 (((fieldsAll (L0.map Px.p) ifsS).take zz.1).map chText) :: row b10 9 [str ifsS] :: row b2 59 [.iface 33 (.pointer (some ⟨p.hb, 0, none⟩))] :: row b4 24 [.slice none 0 0] :: row b5 9 [str []] :: row b6 30 [.int .i64 0] :: obj bl (.loop { ready with state := .busy }) :: dfr :: FF)) (0, vo) ?_ (sub_cons rfl sub_nil) (sub_cons rfl (sub_cons rfl (sub_cons rfl (sub_cons rfl (sub_cons rfl (sub_cons rfl (sub_cons rfl (sub_cons rfl (sub_cons rfl (sub_cons rfl (sub_cons rfl (sub_cons rfl (sub_cons rfl (sub_cons rfl (sub_cons rfl (sub_cons rfl (sub_cons rfl (sub_cons rfl (sub_cons rfl (sub_cons rfl (sub_cons rfl (sub_cons rfl sub_nil)))))))))))))))))))))) (fun _ h => by dsimp only; rw [List.take_zero, List.map_nil]; exact subC_st h) ?_
          · try dsimp only
            exact Nat.zero_le _
          rintro ⟨i, vo⟩ hi
          try dsimp only at *
          refine t_seq ?_
          refine t_region ?_
          refine l_q rfl rfl rfl (q_lss rfl rfl rfl) ?_
          refine l_nil ?_
          refine n_then ?_
          refine t_seq ?_
          refine t_cond rfl (fun hc3 => ?_) (fun hc3 => ?_)
          · skip
            try simp at hc3
            have hiL : i < (fieldsAll (L0.map Px.p) ifsS).length := by omega
            have hwi := hwl _ (nth_mem (d := []) hiL)
            refine t_skip ?_
            refine n_then ?_
            refine t_seq ?_
            refine t_block ?_
            refine t_seq ?_
            refine t_region ?_
            refine l_q rfl rfl rfl ((by first | exact q_indexAddrVN rfl Tryz.underlying80 ti47 rfl rfl (by omega) | exact q_indexAddrN rfl Tryz.underlying80 ti47 rfl rfl (Sl.shape hfv ((List.length_map _).trans hul)) (by omega) | exact q_indexAddrV rfl Tryz.underlying80 ti47 rfl rfl (by omega) | exact q_indexAddr rfl Tryz.underlying80 ti47 rfl rfl (Sl.shape hfv ((List.length_map _).trans hul)) (by omega))) ?_
            refine l_q rfl rfl rfl ((by first | exact q_load_row rfl Tryz.underlying47 rfl rfl (by rfl) | exact q_load rfl Tryz.underlying47 rfl rfl (rd_row1 (i := i) hfv (by omega)))) ?_
            refine l_q rfl rfl rfl (q_assign rfl rfl) ?_
            refine l_nil ?_
            refine n_then ?_
            refine t_seq ?_
            refine t_region ?_
            refine l_q rfl rfl rfl (q_assign rfl rfl) ?_
            refine l_nil ?_
            refine n_then ?_
            refine t_seq ?_
            refine t_seq ?_
            refine t_region ?_
            refine l_q rfl rfl rfl (q_move rfl rfl) ?_
            refine l_q rfl rfl rfl (quiet_call rfl rfl rfl Tryz.func33 (by kernel_rfl) rfl ((fun w hw => wild_pure _ (nth (fieldsAll (L0.map Px.p) ifsS) i []) w (by have := hfo1 i (by omega); omega) ((hus.at_ (i := i) (by omega)).mono hw.le)))) ?_
            refine l_nil ?_
            refine n_then ?_
            refine t_cond rfl (fun hc4 => ?_) (fun hc4 => ?_)
            · skip
              rw [hwi] at hc4
              cases hc4
            · skip
              refine t_skip ?_
              refine n_then ?_
              refine t_seq ?_
              refine t_seq ?_
              refine t_region ?_
              refine l_q rfl rfl rfl (q_move rfl rfl) ?_
              refine l_q rfl rfl rfl ((by first | exact q_lenV rfl Tryz.underlying24 rfl | exact q_len rfl Tryz.underlying24 rfl (⟨none, 0, rfl⟩) | exact q_len rfl Tryz.underlying24 rfl (Sl.lenOf hfv ((List.length_map _).trans hul)) | exact q_len rfl Tryz.underlying24 rfl (len_of hsho))) ?_
              refine l_q rfl rfl rfl (q_eql rfl rfl rfl) ?_
              refine l_nil ?_
              refine n_then ?_
              refine t_cond rfl (fun hc5 => ?_) (fun hc5 => ?_)
              · skip
                refine t_region ?_
                refine l_q rfl rfl rfl (q_move rfl rfl) ?_
                refine l_q rfl rfl rfl (quiet_call rfl rfl rfl Tryz.func34 (by kernel_rfl) rfl ((fun w hw => text_pure _ (nth (fieldsAll (L0.map Px.p) ifsS) i []) w (by have := hfo1 i (by omega); omega) ((hus.at_ (i := i) (by omega)).mono hw.le)))) ?_
                refine l_e rfl rfl rfl (e_buildSlice1 rfl Tryz.underlying24 ti9 rfl rfl rfl (by first | exact One.cells (by assumption) | exact One.cells hpx.one | exact One.cells hone | exact One.cells hvo.one | rfl) rfl) ?_
                rintro _ _ _ ⟨b65, rfl, rfl, rfl⟩
                refine l_q rfl rfl rfl (q_assign rfl rfl) ?_
                refine l_nil ?_
                refine n_then ?_
                refine t_region ?_
                refine l_q rfl rfl rfl ((by first | exact q_load_row rfl Tryz.underlying24 rfl rfl (by rfl) | exact q_load rfl Tryz.underlying24 rfl rfl (rd_row1 (i := i) hfv (by omega)))) ?_
                refine l_q rfl rfl rfl (q_move rfl rfl) ?_
                refine l_e rfl rfl rfl (e_appendT (f := svC) (c := (chText (nth (fieldsAll (L0.map Px.p) ifsS) i []))) rfl Tryz.underlying24 ti9 rfl rfl rfl rfl rfl rfl rfl (svC_ones _) (by simp only [maxLen, List.length_map, List.length_take]; omega) (by simp only [List.length_map, List.length_take]; omega)) ?_
                rintro v68 _ _ ⟨rfl, rfl⟩
                refine l_one v68 (fun hone => ?_)
                refine l_e0 rfl rfl (e_storeS rfl ti24 rfl rfl (by first | exact ⟨rfl, rfl⟩ | assumption | exact hpx.one | exact hone | exact hvo.one) rfl (by first | (simp only [List.set_cons_succ, List.set_cons_zero]; rfl) | rfl)) ?_
                rintro _ _ _ ⟨rfl, rfl⟩
                refine l_heap (H' := row b12 24 [v68] :: _) ?_ (fun _ h => h)
                refine l_nil ?_
                refine n_block ?_
                refine n_then ?_
                refine t_region ?_
                refine l_q rfl rfl rfl (q_add64 rfl rfl rfl (by omega)) ?_
                refine l_q rfl rfl rfl (q_move rfl rfl) ?_
                refine l_nil ?_
                refine n_roundE ((i + 1, v68)) ?_ ?_ (sub_cons rfl sub_nil) (sub_cons rfl (sub_cons rfl (sub_cons rfl (sub_cons rfl (sub_cons rfl (sub_cons rfl (sub_cons rfl (sub_cons rfl (sub_cons rfl (sub_cons rfl (sub_cons rfl (sub_cons rfl (sub_cons rfl (sub_cons rfl (sub_cons rfl (sub_cons rfl (sub_cons rfl (sub_cons rfl (sub_cons rfl (sub_cons rfl (sub_cons rfl (sub_cons rfl sub_nil)))))))))))))))))))))) (fun _ h => by dsimp only; rw [take_nth [] hiL, List.map_append, List.map_singleton]; exact subC_st h)
                · try dsimp only
                  show i + 1 ≤ _
                  omega
                · try dsimp only
                  show _ - (i + 1) < _ - i
                  omega
              · skip
                exact absurd hc5 (by decide)
          · skip
            try simp at hc3
            have hiL : i = (fieldsAll (L0.map Px.p) ifsS).length := by omega
            rw [hiL, List.take_length]
            refine t_exit ?_
            refine n_exit_then ?_
            refine n_exit_then ?_
            refine n_exit_block ?_
            refine n_block ?_
            refine n_rnext (fun w' hw' => .inl ⟨rfl, ((vo, (fieldsAll (L0.map Px.p) ifsS).map chText, J43)), ?_, ?_, ?_⟩)
            · try dsimp only
              exact ⟨hJl.trans (hJV.trans hJ43), rfl⟩
            · exact hJ43
            · try dsimp only
              exact subC_st hw'
      intro bd gg JV hinv hle hJV
      obtain ⟨vo, o, J⟩ := gg
      obtain ⟨hJl, ho⟩ := hinv
      try dsimp only at *
      obtain rfl : o = (fieldsAll (L0.map Px.p) ifsS).map chText := ho
      refine n_block ?_
      refine n_then ?_
      refine t_seq ?_
      refine t_seq ?_
      refine t_len vo (fun hsho => ?_)
      refine t_region ?_
      refine l_q rfl rfl rfl ((by first | exact q_load_row rfl Tryz.underlying24 rfl rfl (by rfl) | exact q_load rfl Tryz.underlying24 rfl rfl (rd_row1 (i := i) hfv (by omega)))) ?_
      refine l_q rfl rfl rfl ((by first | exact q_lenV rfl Tryz.underlying24 rfl | exact q_len rfl Tryz.underlying24 rfl (⟨none, 0, rfl⟩) | exact q_len rfl Tryz.underlying24 rfl (Sl.lenOf hfv ((List.length_map _).trans hul)) | exact q_len rfl Tryz.underlying24 rfl (len_of hsho))) ?_
      refine l_q rfl rfl rfl (q_gtr rfl rfl rfl) ?_
      refine l_nil ?_
      refine n_then ?_
      refine t_cond rfl (fun hc6 => ?_) (fun hc6 => ?_)
      · skip
        try simp at hc6
        omega
      · skip
        try simp at hc6
        refine t_skip ?_
        refine n_then ?_
        refine t_seq ?_
        refine t_freezeT (f := svC) (l := (fieldsAll (L0.map Px.p) ifsS).map chText) vo (fun _ => rfl) (fun Jf hJf hvo => ?_)
        refine t_region ?_
        refine l_q rfl rfl rfl ((by first | exact q_load_row rfl Tryz.underlying24 rfl rfl (by rfl) | exact q_load rfl Tryz.underlying24 rfl rfl (rd_row1 (i := i) hfv (by omega)))) ?_
        refine l_e0 rfl rfl (e_storeS rfl ti24 rfl rfl (by first | exact ⟨rfl, rfl⟩ | assumption | exact hpx.one | exact hone | exact hvo.one) rfl (by first | (simp only [List.set_cons_succ, List.set_cons_zero]; rfl) | rfl)) ?_
        rintro _ _ _ ⟨rfl, rfl⟩
        refine l_e0 rfl rfl (e_storeS rfl ti9 rfl rfl (by first | exact ⟨rfl, rfl⟩ | assumption | exact hpx.one | exact hone | exact hvo.one) rfl (by first | (simp only [List.set_cons_succ, List.set_cons_zero]; rfl) | rfl)) ?_
        rintro _ _ _ ⟨rfl, rfl⟩
        refine l_e0 rfl rfl (e_storeS rfl ti30 rfl rfl (by first | exact ⟨rfl, rfl⟩ | assumption | exact hpx.one | exact hone | exact hvo.one) rfl (by first | (simp only [List.set_cons_succ, List.set_cons_zero]; rfl) | rfl)) ?_
        rintro _ _ _ ⟨rfl, rfl⟩
        refine l_nil ?_
        refine n_then ?_
        refine t_ret ?_
        refine n_np_ret ?_
        refine n_retGM (bs := [bd]) (.inl rfl) rfl (by exact res_cell rfl Tryz.underlying24 rfl (by first | exact rd_rowI rfl | exact rd_row1 (i := i) hfv (by omega)) (res_cell rfl Tryz.underlying9 rfl (by first | exact rd_rowI rfl | exact rd_row1 (i := i) hfv (by omega)) (res_cell rfl Tryz.underlying30 rfl (by first | exact rd_rowI rfl | exact rd_row1 (i := i) hfv (by omega)) (res_nil)))) (fun w' hw => ?_)
        -- leaf 0
        exact ⟨_, rfl, Jf, hostH p lv2 av2 hh F, ⟨hJ22.trans (hJ38.trans (hJl.trans (hJV.trans hJf))), lv2, av2, vo, rfl, rfl, hi2.mono (hJ38.trans (hJl.trans (hJV.trans hJf))), hvo⟩, subC_st hw⟩
    · skip
      cases hc1
end Go.Tri
