/-
  What begins with a dollar.
-/
import Derived.Test.YtbogmbdfjgnfaaaGreatDoorEB4
namespace Go.Tri
open Go.Proofs Go.RowKit
theorem dol_br {W : Nat → List UInt8 → PR} {kd : Nat} {c : UInt8} {inner : List UInt8} {I : Look} {x : PE} {e : Nat} (hc : c = 123) (h : BRes (bracedP W kd inner) I x e) : (e = 0 → dolR W kd c inner = .ok x.pt) ∧ (e ≠ 0 → dolR W kd c inner = .bad e) := by
  unfold dolR
  rw [if_pos hc]
  exact ⟨fun he => (h.t he).1, fun he => h.f he⟩
theorem dol_ex {W : Nat → List UInt8 → PR} {kd : Nat} {c : UInt8} {inner : List UInt8} {wl : List PT} (hc : ¬ c = 123) (he : exprB inner (decide (kd ≠ 0)) = true) (hw : W 2 ((inner.take (inner.length - 1)).drop 1) = .ok wl) : dolR W kd c inner = .ok (.mk 4 [] [] wl (decide (kd ≠ 0))) := by
  unfold dolR
  rw [if_neg hc, if_pos he, hw]
theorem dol_exb {W : Nat → List UInt8 → PR} {kd : Nat} {c : UInt8} {inner : List UInt8} {e : Nat} (hc : ¬ c = 123) (he : exprB inner (decide (kd ≠ 0)) = true) (hw : W 2 ((inner.take (inner.length - 1)).drop 1) = .bad e) : dolR W kd c inner = .bad e := by
  unfold dolR
  rw [if_neg hc, if_pos he, hw]
theorem dig_on {c : UInt8} (h : (decide ((48 : Int) ≤ (c.toNat : Int)) && decide ((c.toNat : Int) ≤ 57)) = true) : 48 ≤ c.toNat ∧ c.toNat ≤ 57 := by
  rw [Bool.and_eq_true, decide_eq_true_eq, decide_eq_true_eq] at h
  omega
theorem dig_off {c : UInt8} (h : (decide ((48 : Int) ≤ (c.toNat : Int)) && decide ((c.toNat : Int) ≤ 57)) = false) : ¬ (48 ≤ c.toNat ∧ c.toNat ≤ 57) := fun ⟨h1, h2⟩ => by
  rw [decide_eq_true (show (48 : Int) ≤ (c.toNat : Int) by omega), decide_eq_true (show (c.toNat : Int) ≤ 57 by omega)] at h
  cases h
set_option maxRecDepth 10000 in
theorem dollarw_calls (n : Nat) (hW : ∀ m, n = m + 1 → WithinOk m) (b : Nat) (s : List UInt8) (kd dp : Nat) (v : Value) (L : List PE) (i : Nat) (I : Look) (F : List HA) (w0 w : World) (hn : L.length ≤ 200000000) (hsum : sumT L ≤ 200000000) (hn9 : 24 - dp = n) (hd : dp ≤ 24) (hi : i < s.length) (hs : s.length ≤ 100000000) (hc : nth s i 0 = 36) (hkd : kd ≤ 2) (hG : EnvI I) (hWL : WordsR I L) (hw0 : St w0 I (row b 169 (rdC s kd dp v) :: tvec 148 5 partC v L :: F) w) : Calls Tryz.prog 112 [.pointer (some ⟨b, 0, none⟩), str (s.drop i)].toArray w (fun e w' => ∃ v0, e = .returned v0 ∧ ∃ I' H', (StepPost b s kd dp (dolP n (Wn n) kd (s.drop i) (L.map PE.pt)) v0 I I' F H') ∧ St w I' H' w') := by
  have hdl : (s.drop i).length = s.length - i := List.length_drop
  refine enter Tryz.func112 rfl Tryz.ntmps112 rfl (hw0.self) ?_
  refine t_seq ?_
  refine t_region ?_
  refine l_q rfl rfl rfl (q_assign rfl rfl) ?_
  refine l_q rfl rfl rfl (q_assign rfl rfl) ?_
  refine l_nil ?_
  refine n_then ?_
  refine t_seq ?_
  refine t_region ?_
  refine l_q rfl rfl rfl (q_move rfl rfl) ?_
  refine l_q rfl rfl rfl (q_nilCheck rfl rfl) ?_
  refine l_q rfl rfl rfl (q_fieldAddr rfl Tryz.underlying169 rfl rfl ti9 rfl rfl) ?_
  refine l_q rfl rfl rfl (q_load_row rfl Tryz.underlying9 rfl rfl (by rfl)) ?_
  refine l_q rfl rfl rfl (q_len_str rfl Tryz.underlying9 rfl) ?_
  refine l_q rfl rfl rfl (q_move rfl rfl) ?_
  refine l_q rfl rfl rfl (q_len_str rfl Tryz.underlying9 rfl) ?_
  refine l_q rfl rfl rfl (q_sub64 rfl rfl rfl (by omega)) ?_
  rw [show (s.length : Int) - ((s.drop i).length : Int) = (i : Int) by omega]
  refine l_q rfl rfl rfl (q_assign rfl rfl) ?_
  refine l_nil ?_
  refine n_then ?_
  refine t_seq ?_
  refine t_qdraw mo (by kernel_rfl) (fun _ _ _ _ _ h => h) ?_
  refine s_q rfl rfl rfl (q_move rfl rfl) ?_
  refine s_q rfl rfl rfl (q_nilCheck rfl rfl) ?_
  refine s_q rfl rfl rfl (q_fieldAddr rfl Tryz.underlying169 rfl rfl ti9 rfl rfl) ?_
  refine s_q rfl rfl rfl (q_load_row rfl Tryz.underlying9 rfl rfl (by rfl)) ?_
  refine s_q rfl rfl rfl (q_move rfl rfl) ?_
  refine s_q rfl rfl rfl (q_move rfl rfl) ?_
  refine s_q rfl rfl rfl (q_nilCheck rfl rfl) ?_
  refine s_q rfl rfl rfl (q_fieldAddr rfl Tryz.underlying169 rfl rfl ti3 rfl rfl) ?_
  refine s_q rfl rfl rfl (q_load_row rfl Tryz.underlying3 rfl rfl (by rfl)) ?_
  refine s_q rfl rfl rfl (q_move rfl rfl) ?_
  refine s_q rfl rfl rfl (quiet_call rfl rfl rfl Tryz.func114 (by kernel_rfl) rfl ((fun w hw => quoted_pure b s kd dp v w (rowed_of hw)))) ?_
  refine s_q rfl rfl rfl (quiet_call rfl rfl rfl Tryz.func131 (by kernel_rfl) rfl ((fun w _ => end_pure s i dp (decide (kd ≠ 0)) w (by omega)))) ?_
  rw [endT_dl hi hd hc, hn9]
  obtain ⟨r, hr⟩ : ∃ r, r = (lv n).2 (decide (kd ≠ 0)) (s.drop i) := ⟨_, rfl⟩
  obtain ⟨bg, hbg⟩ : ∃ bg, bg = begB s i := ⟨_, rfl⟩
  rw [← hr, ← hbg]
  have hfy : Faulty r := hr ▸ (lv_faulty n).2 _ _
  have hr3 : ∀ k, r = .ok k → 1 ≤ k := fun k h => by have := lv_ok2 (hr.symm.trans h); omega
  refine s_q rfl rfl rfl (q_move rfl rfl) ?_
  refine s_q rfl rfl rfl (q_extract rfl rfl rfl) ?_
  refine s_q rfl rfl rfl (q_extract rfl rfl rfl) ?_
  refine s_q rfl rfl rfl (q_extract rfl rfl rfl) ?_
  refine s_q rfl rfl rfl (q_assign rfl rfl) ?_
  refine s_q rfl rfl rfl (q_assign rfl rfl) ?_
  refine s_q rfl rfl rfl (q_assign rfl rfl) ?_
  refine s_done ?_
  refine n_then ?_
  refine t_seq ?_
  refine t_seq ?_
  refine t_region ?_
  refine l_q rfl rfl rfl (q_move rfl rfl) ?_
  refine l_q rfl rfl rfl (q_neq rfl rfl rfl) ?_
  refine l_nil ?_
  refine n_then ?_
  refine t_cond rfl (fun hc0 => ?_) (fun hc0 => ?_)
  · skip
    try simp at hc0
    have hx : dl bg (scX r) ≠ 0 := by omega
    obtain ⟨hbt, a, hrb⟩ := dl_fault hx
    refine t_seq ?_
    refine t_region ?_
    refine l_q rfl rfl rfl (q_move rfl rfl) ?_
    refine l_q rfl rfl rfl (q_assign rfl rfl) ?_
    refine l_q rfl rfl rfl (q_assign rfl rfl) ?_
    refine l_nil ?_
    refine n_then ?_
    refine t_ret ?_
    refine n_ret_then ?_
    refine n_ret2 rfl rfl rfl (fun w' hw => ?_)
    -- leaf 0
    exact ⟨_, rfl, I, _, StepPost.fail (v' := v) (L' := L) (Le.refl _) (dolP_bad (hbg.symm.trans hbt) (hr.symm.trans hrb)) hx rfl hWL, subC_st hw⟩
  · skip
    try simp at hc0
    have hx : dl bg (scX r) = 0 := by omega
    have hz := dl_zero (i := i) hx hfy hr3
    refine t_skip ?_
    refine n_then ?_
    refine t_seq ?_
    refine t_seq ?_
    refine t_region ?_
    refine l_q rfl rfl rfl (q_move rfl rfl) ?_
    refine l_q rfl rfl rfl (q_eql rfl rfl rfl) ?_
    refine l_nil ?_
    refine n_then ?_
    refine t_cond rfl (fun hc1 => ?_) (fun hc1 => ?_)
    · skip
      try simp at hc1
      have hb : beginsB (s.drop i) = false := hbg.symm.trans (hz.1 (by omega))
      have hdp := dolP_par (n := n) (W := Wn n) (kd := kd) (acc := (L.map PE.pt)) hb
      have hple := param_le ((s.drop i).drop 1)
      rw [List.length_drop] at hple
      refine t_seq ?_
      refine t_region ?_
      refine l_q rfl rfl rfl (q_move rfl rfl) ?_
      refine l_q rfl rfl rfl (q_slice_str_from rfl Tryz.underlying9 rfl rfl (by omega)) ?_
      refine l_q rfl rfl rfl (quiet_call rfl rfl rfl Tryz.func133 (by kernel_rfl) rfl ((fun w _ => param_pure ((s.drop i).drop 1) w (by rw [List.length_drop]; omega)))) ?_
      refine l_q rfl rfl rfl (q_assign rfl rfl) ?_
      refine l_nil ?_
      refine n_then ?_
      refine t_cutE (ι := Nat) (fun zz => zz = (if 48 ≤ (nth (s.drop i) 1 0).toNat ∧ (nth (s.drop i) 1 0).toNat ≤ 57 then 1 else paramN ((s.drop i).drop 1)) ∧ ¬ paramN ((s.drop i).drop 1) = 0 ∧ zz ≤ paramN ((s.drop i).drop 1)) (fun zz => [(10, .int .i64 (zz : Int))]) [(0, _), (1, _), (6, _), (7, _), (9, _), (38, _), (41, _)] (fun zz => I) (fun zz => (row b 169 (rdC s kd dp v) :: tvec 148 5 partC v L :: F)) (sub_cons rfl (sub_cons rfl (sub_cons rfl (sub_cons rfl (sub_cons rfl (sub_cons rfl (sub_cons rfl sub_nil))))))) ?_ ?_
      · skip
        refine t_block ?_
        refine t_seq ?_
        refine t_region ?_
        refine l_q rfl rfl rfl (q_move rfl rfl) ?_
        refine l_q rfl rfl rfl (q_eql rfl rfl rfl) ?_
        refine l_q rfl rfl rfl (q_assign rfl rfl) ?_
        refine l_nil ?_
        refine n_then ?_
        refine t_cond rfl (fun hc2 => ?_) (fun hc2 => ?_)
        · skip
          have hp0 : paramN ((s.drop i).drop 1) = 0 := by have := of_decide_eq_true hc2; omega
          refine t_seq ?_
          refine t_region ?_
          refine l_q rfl rfl rfl (q_move rfl rfl) ?_
          refine l_q rfl rfl rfl (q_move rfl rfl) ?_
          refine l_q rfl rfl rfl (quiet_call rfl rfl rfl Tryz.func114 (by kernel_rfl) rfl ((fun w hw => quoted_pure b s kd dp v w (rowed_of hw)))) ?_
          refine l_e rfl rfl rfl (eff_call rfl rfl rfl Tryz.func113 (by kernel_rfl) rfl (fun w hw => lit_calls b s kd dp v L [36] (decide (kd ≠ 0)) _ _ _ w (by omega) (by simp) (fun x hx => by have := sumT_mem hx; omega) (picks_st2 (row b 169 (rdC s kd dp v)) (tvec 148 5 partC v L) hw))) ?_
          rintro _ _ _ ⟨rfl, rfl, v51, rfl⟩
          refine l_nil ?_
          refine n_then ?_
          refine t_seq ?_
          refine t_region ?_
          refine l_q rfl rfl rfl (q_assign rfl rfl) ?_
          refine l_q rfl rfl rfl (q_assign rfl rfl) ?_
          refine l_nil ?_
          refine n_then ?_
          refine t_ret ?_
          refine n_ret_block ?_
          refine n_ret_then ?_
          refine n_ret_then ?_
          refine n_ret2 rfl rfl rfl (fun w' hw => ?_)
          -- leaf 1
          exact ⟨_, rfl, I, _, StepPost.good (v' := v51) (L' := litE L [36] (decide (kd ≠ 0))) (Le.refl _) (hdp.1 hp0) rfl (litE_words hWL) (litE_pt _ _ _), subC_st hw⟩
        · skip
          have hp0 : ¬ paramN ((s.drop i).drop 1) = 0 := by have := of_decide_eq_false hc2; omega
          refine t_seq ?_
          refine t_qreg ?_
          refine s_q rfl rfl rfl (q_move rfl rfl) ?_
          refine s_q rfl rfl rfl ((by first | exact q_index_strN rfl Tryz.underlying9 rfl rfl (by omega) | exact q_index_str rfl Tryz.underlying9 rfl rfl (by omega))) ?_
          refine s_q rfl rfl rfl (q_leq rfl rfl rfl) ?_
          refine s_q rfl rfl rfl (q_move rfl rfl) ?_
          refine s_and2 3 3 56 60 59 _ _ rfl rfl rfl rfl rfl rfl (fun h60 => by
              try simp at h60
              refine s_g rfl rfl rfl rfl rfl rfl (q_move rfl rfl) ?_
              refine s_g rfl rfl rfl rfl rfl rfl ((by first | exact q_index_strN rfl Tryz.underlying9 rfl rfl (by omega) | exact q_index_str rfl Tryz.underlying9 rfl rfl (by omega))) ?_
              refine s_g rfl rfl rfl rfl rfl rfl (q_leq rfl rfl rfl) ?_
              exact s_val rfl
            ) (wanted_n rfl) rfl rfl rfl ?_
          refine s_q rfl rfl rfl (q_assign rfl rfl) ?_
          refine s_done ?_
          refine n_then ?_
          refine t_cond rfl (fun hc3 => ?_) (fun hc3 => ?_)
          · skip
            have hc3p : 48 ≤ (nth (s.drop i) 1 0).toNat ∧ (nth (s.drop i) 1 0).toNat ≤ 57 := dig_on hc3
            refine t_region ?_
            refine l_q rfl rfl rfl (q_assign rfl rfl) ?_
            refine l_nil ?_
            refine n_block ?_
            refine n_cut (1) ?_ (sub_cons rfl sub_nil) (sub_cons rfl (sub_cons rfl (sub_cons rfl (sub_cons rfl (sub_cons rfl (sub_cons rfl (sub_cons rfl sub_nil))))))) (fun _ h => by try dsimp only; exact subC_st h)
            · try dsimp only
              exact ⟨by rw [if_pos hc3p], hp0, by omega⟩
          · skip
            have hc3n : ¬ (48 ≤ (nth (s.drop i) 1 0).toNat ∧ (nth (s.drop i) 1 0).toNat ≤ 57) := dig_off hc3
            refine t_skip ?_
            refine n_block ?_
            refine n_cut (paramN ((s.drop i).drop 1)) ?_ (sub_cons rfl sub_nil) (sub_cons rfl (sub_cons rfl (sub_cons rfl (sub_cons rfl (sub_cons rfl (sub_cons rfl (sub_cons rfl sub_nil))))))) (fun _ h => by try dsimp only; exact subC_st h)
            · try dsimp only
              exact ⟨by rw [if_neg hc3n], hp0, Nat.le_refl _⟩
      rintro x ⟨hx, hp0, hxl⟩
      try dsimp only at *
      refine t_seq ?_
      refine t_len v (fun hlv => ?_)
      refine t_draw [12, 13, 15, 18] [15, 18] [row b 169 (rdC s kd dp v)] mo (by kernel_rfl) (fun _ _ _ _ _ h => h) ?_
      refine r_qf 0 (by kernel_rfl) rfl rfl rfl rfl (fun _ => q_move rfl rfl) ?_
      refine r_qf 1 (by kernel_rfl) rfl rfl rfl rfl (fun _ => q_nilCheck rfl rfl) ?_
      refine r_qf 2 (by kernel_rfl) rfl rfl rfl rfl (fun _ => q_fieldAddr rfl Tryz.underlying169 rfl rfl ti167 rfl rfl) ?_
      refine r_q0 3 (by kernel_rfl) rfl (Le.refl _) rfl rfl rfl (fun _ hI => q_load_row rfl Tryz.underlying167 rfl rfl (by rfl)) ?_
      refine r_qf 4 (by kernel_rfl) rfl rfl rfl rfl (fun _ => q_move rfl rfl) ?_
      refine r_qf 5 (by kernel_rfl) rfl rfl rfl rfl (fun _ => q_move rfl rfl) ?_
      refine r_qf 6 (by kernel_rfl) rfl rfl rfl rfl (fun _ => q_add64 rfl rfl rfl (by omega)) ?_
      refine r_qf 7 (by kernel_rfl) rfl rfl rfl rfl (fun _ => q_slice_str rfl Tryz.underlying9 rfl rfl rfl (by omega)) ?_
      refine r_qf 8 (by kernel_rfl) rfl rfl rfl rfl (fun _ => q_move rfl rfl) ?_
      refine r_q0 9 (by kernel_rfl) rfl (Le.refl _) rfl rfl rfl (fun _ hI => quiet_call rfl rfl rfl Tryz.func114 (by kernel_rfl) rfl ((fun w hw => quoted_pure b s kd dp v w (rowed_of hw)))) ?_
      refine r_qf 10 (by kernel_rfl) rfl rfl rfl rfl (fun _ => q_build (pl := [(_, _), (_, _), (_, _), (_, _), (_, _)]) (cs := (partC (⟨2, (((s.drop i).drop 1).take (((x : Int) + 1).toNat - 1)), [], nilV, [], (decide (kd ≠ 0))⟩ : PE)).toArray) rfl Tryz.underlying148 ti148 ⟨rfl, ⟨_, _, ti3⟩, rfl, ⟨_, _, ti9⟩, rfl, ⟨_, _, ti9⟩, rfl, ⟨_, _, ti96⟩, rfl, ⟨_, _, ti4⟩, trivial⟩ rfl rfl) ?_
      refine r_qf 11 (by kernel_rfl) rfl rfl rfl rfl (fun _ => (by first | exact q_lenV rfl Tryz.underlying167 rfl | exact q_len rfl Tryz.underlying167 rfl (len_of hlv))) ?_
      refine r_e 12 (by kernel_rfl) (by kernel_rfl) rfl (Le.refl _) rfl rfl rfl (e_buildSlice1 rfl Tryz.underlying167 ti148 rfl rfl rfl (by first | exact One.cells (by assumption) | exact One.cells hvl1 | exact One.cells hone | exact One.cells hone | rfl) rfl) ?_
      rintro _ _ _ ⟨b73, rfl, rfl, rfl⟩
      refine ⟨Le.refl _, .inr SubC.sub, ?_⟩
      refine r_e 13 (by kernel_rfl) (by kernel_rfl) rfl (Le.refl _) rfl rfl rfl (e_appendT (f := partC) (c := pe0) rfl Tryz.underlying167 ti148 rfl rfl rfl rfl rfl rfl rfl (by first | exact partC_ones (I := I) (plR_nil I) | exact partC_ones (I := I) (plR_nil I) | exact byC_ones _ | exact chC_ones _ | exact pcC_ones _ | simp [Value.oneCell', str, u8] | exact ones1 (by assumption)) (by simp only [maxLen]; omega) (by omega)) ?_
      rintro v74 _ _ ⟨rfl, rfl⟩
      refine ⟨Le.refl _, .inr SubC.sub, ?_⟩
      have hlen74 : (L ++ [pe0]).length = L.length + 1 := by simp
      refine r_len v74 (fun hsh74 hone => ?_)
      refine r_qf 14 (by kernel_rfl) rfl rfl rfl rfl (fun _ => (by first | exact q_indexAddrVN rfl Tryz.underlying167 ti148 rfl rfl (by omega) | exact q_indexAddrN rfl Tryz.underlying167 ti148 rfl rfl (hsh74) (by omega) | exact q_indexAddrN rfl Tryz.underlying167 ti148 rfl rfl (hsh135) (by omega) | exact q_indexAddrV rfl Tryz.underlying167 ti148 rfl rfl (by omega) | exact q_indexAddr rfl Tryz.underlying167 ti148 rfl rfl (hsh74) (by omega) | exact q_indexAddr rfl Tryz.underlying167 ti148 rfl rfl (hsh135) (by omega))) ?_
      refine r_qf 16 (by kernel_rfl) rfl rfl rfl rfl (fun _ => q_nilCheck rfl rfl) ?_
      refine r_qf 17 (by kernel_rfl) rfl rfl rfl rfl (fun _ => q_fieldAddr rfl Tryz.underlying169 rfl rfl ti167 rfl rfl) ?_
      refine r_two 15 18 (by kernel_rfl) (by kernel_rfl) ?_ ?_
      · skip
        refine x_e0 15 rfl rfl (Le.refl _) rfl rfl (e_storeSA ((⟨2, (((s.drop i).drop 1).take (((x : Int) + 1).toNat - 1)), [], nilV, [], (decide (kd ≠ 0))⟩ : PE)) rfl ti148 rfl rfl (partC_ones (I := I) (plR_nil I)) (fun _ => rfl) (by simp) (by decide)) ?_
        rintro _ _ _ ⟨rfl, rfl⟩
        refine ⟨Le.refl _, .inl rfl, ?_⟩
        refine r_heap (H' := tvec 148 5 partC v74 (L ++ [(⟨2, (((s.drop i).drop 1).take (((x : Int) + 1).toNat - 1)), [], nilV, [], (decide (kd ≠ 0))⟩ : PE)]) :: _) ?_ (fun _ h => by rw [set_snoc] at h; exact h)
        refine r_e0 18 (by kernel_rfl) (by kernel_rfl) rfl (Le.refl _) rfl rfl (e_storeS rfl ti167 rfl rfl (by first | exact ⟨rfl, rfl⟩ | assumption | exact hvl1 | exact hone | exact hone) rfl (by first | (simp only [List.set_cons_succ, List.set_cons_zero]; rfl) | rfl)) ?_
        rintro _ _ _ ⟨rfl, rfl⟩
        refine ⟨Le.refl _, .inl rfl, ?_⟩
        refine r_heap (H' := row b 169 (rdC s kd dp v74) :: _) ?_ (fun _ h => h)
        refine r_end (by kernel_rfl) ?_
        refine n_then ?_
        refine t_seq ?_
        refine t_region ?_
        refine l_q rfl rfl rfl (q_move rfl rfl) ?_
        refine l_q rfl rfl rfl (q_add64 rfl rfl rfl (by omega)) ?_
        refine l_q rfl rfl rfl (q_assign rfl rfl) ?_
        refine l_q rfl rfl rfl (q_assign rfl rfl) ?_
        refine l_nil ?_
        refine n_then ?_
        refine t_ret ?_
        refine n_ret_then ?_
        refine n_ret2 rfl rfl rfl (fun w' hw => ?_)
        -- leaf 2
        exact ⟨_, rfl, I, _, StepPost.good (v' := v74) (L' := L ++ [(⟨2, (((s.drop i).drop 1).take (((x : Int) + 1).toNat - 1)), [], nilV, [], (decide (kd ≠ 0))⟩ : PE)]) (k := x + 1) (Le.refl _) (hdp.2 x hp0 hx) rfl (hWL.app (wordsR_one (plR_nil I))) (by rw [List.map_append]; show _ ++ [PT.mk 2 (((s.drop i).drop 1).take (((x : Int) + 1).toNat - 1)) [] [] (decide (kd ≠ 0))] = _; rw [show ((x : Int) + 1).toNat - 1 = x by omega]), subC_st hw⟩
      · skip
        refine x_e0 18 rfl rfl (Le.refl _) rfl rfl (e_storeS rfl ti167 rfl rfl (by first | exact ⟨rfl, rfl⟩ | assumption | exact hvl1 | exact hone | exact hone) rfl (by first | (simp only [List.set_cons_succ, List.set_cons_zero]; rfl) | rfl)) ?_
        rintro _ _ _ ⟨rfl, rfl⟩
        refine ⟨Le.refl _, .inl rfl, ?_⟩
        refine r_heap (H' := row b 169 (rdC s kd dp v74) :: _) ?_ (fun _ h => h)
        refine r_e0 15 (by kernel_rfl) (by kernel_rfl) rfl (Le.refl _) rfl rfl (e_storeSA ((⟨2, (((s.drop i).drop 1).take (((x : Int) + 1).toNat - 1)), [], nilV, [], (decide (kd ≠ 0))⟩ : PE)) rfl ti148 rfl rfl (partC_ones (I := I) (plR_nil I)) (fun _ => rfl) (by simp) (by decide)) ?_
        rintro _ _ _ ⟨rfl, rfl⟩
        refine ⟨Le.refl _, .inl rfl, ?_⟩
        refine r_heap (H' := tvec 148 5 partC v74 (L ++ [(⟨2, (((s.drop i).drop 1).take (((x : Int) + 1).toNat - 1)), [], nilV, [], (decide (kd ≠ 0))⟩ : PE)]) :: _) ?_ (fun _ h => by rw [set_snoc] at h; exact h)
        refine r_end (by kernel_rfl) ?_
        refine n_then ?_
        refine t_seq ?_
        refine t_region ?_
        refine l_q rfl rfl rfl (q_move rfl rfl) ?_
        refine l_q rfl rfl rfl (q_add64 rfl rfl rfl (by omega)) ?_
        refine l_q rfl rfl rfl (q_assign rfl rfl) ?_
        refine l_q rfl rfl rfl (q_assign rfl rfl) ?_
        refine l_nil ?_
        refine n_then ?_
        refine t_ret ?_
        refine n_ret_then ?_
        refine n_ret2 rfl rfl rfl (fun w' hw => ?_)
        -- leaf 3
        exact ⟨_, rfl, I, _, StepPost.good (v' := v74) (L' := L ++ [(⟨2, (((s.drop i).drop 1).take (((x : Int) + 1).toNat - 1)), [], nilV, [], (decide (kd ≠ 0))⟩ : PE)]) (k := x + 1) (Le.refl _) (hdp.2 x hp0 hx) rfl (hWL.app (wordsR_one (plR_nil I))) (by rw [List.map_append]; show _ ++ [PT.mk 2 (((s.drop i).drop 1).take (((x : Int) + 1).toNat - 1)) [] [] (decide (kd ≠ 0))] = _; rw [show ((x : Int) + 1).toNat - 1 = x by omega]), subC_st hw⟩
    · skip
      try simp at hc1
      obtain ⟨hbt, k, hrk⟩ := hz.2 (by omega)
      have hbb : beginsB (s.drop i) = true := hbg.symm.trans hbt
      have hk3 := lv_ok2 (hr.symm.trans hrk)
      have hkl := (lv_fit n).2 (decide (kd ≠ 0)) (s.drop i) (beginsB_len hbb)
      rw [hr.symm.trans hrk] at hkl
      have hkl : k ≤ (s.drop i).length := hkl.2
      rw [show dl bg (scE i r) = i + k by rw [hbt, hrk]; rfl]
      refine t_skip ?_
      refine n_then ?_
      refine t_seq ?_
      refine t_region ?_
      refine l_q rfl rfl rfl (q_move rfl rfl) ?_
      refine l_q rfl rfl rfl (q_nilCheck rfl rfl) ?_
      refine l_q rfl rfl rfl (q_fieldAddr rfl Tryz.underlying169 rfl rfl ti9 rfl rfl) ?_
      refine l_q rfl rfl rfl (q_load_row rfl Tryz.underlying9 rfl rfl (by rfl)) ?_
      refine l_q rfl rfl rfl (q_move rfl rfl) ?_
      refine l_q rfl rfl rfl (q_add64 rfl rfl rfl (by omega)) ?_
      refine l_q rfl rfl rfl (q_move rfl rfl) ?_
      refine l_q rfl rfl rfl (q_sub64 rfl rfl rfl (by omega)) ?_
      refine l_q rfl rfl rfl (q_slice_str rfl Tryz.underlying9 rfl rfl rfl (by omega)) ?_
      obtain ⟨inner, hin⟩ : ∃ x, x = ((s.drop i).take (k - 1)).drop 2 := ⟨_, rfl⟩
      rw [show (s.drop ((i : Int) + 2).toNat).take (((((i + k : Nat) : Int)) - 1).toNat - ((i : Int) + 2).toNat) = inner by rw [hin, inner_two, show ((i : Int) + 2).toNat = i + 2 by omega, show (((((i + k : Nat) : Int)) - 1).toNat - (i + 2)) = k - 3 by omega]]
      have hil : inner.length = k - 3 := by rw [hin, List.length_drop, List.length_take]; omega
      have hds := dolP_sub (n := n) (W := Wn n) (kd := kd) (acc := (L.map PE.pt)) hbb (hr.symm.trans hrk) hin
      obtain ⟨m, rfl⟩ := lv_some2 (hr.symm.trans hrk)
      refine l_q rfl rfl rfl (q_assign rfl rfl) ?_
      refine l_nil ?_
      refine n_then ?_
      refine t_seq ?_
      refine t_region ?_
      refine l_q rfl rfl rfl (q_move rfl rfl) ?_
      refine l_q rfl rfl rfl (q_move rfl rfl) ?_
      refine l_q rfl rfl rfl (quiet_call rfl rfl rfl Tryz.func114 (by kernel_rfl) rfl ((fun w hw => quoted_pure b s kd dp v w (rowed_of hw)))) ?_
      refine l_q rfl rfl rfl (q_build (pl := [(_, _), (_, _), (_, _), (_, _), (_, _)]) (cs := (partC (⟨3, inner, [], nilV, [], (decide (kd ≠ 0))⟩ : PE)).toArray) rfl Tryz.underlying148 ti148 ⟨rfl, ⟨_, _, ti3⟩, rfl, ⟨_, _, ti9⟩, rfl, ⟨_, _, ti9⟩, rfl, ⟨_, _, ti96⟩, rfl, ⟨_, _, ti4⟩, trivial⟩ rfl rfl) ?_
      refine l_e rfl rfl rfl (e_alloc rfl ti148 rfl) ?_
      rintro _ _ _ ⟨b12, rfl, rfl, rfl⟩
      refine l_e0 rfl rfl ((by first | exact e_store_all rfl ti148 rfl rfl rfl (by first | exact chC_ones _ | exact pcC_ones _ | exact partC_ones (I := I) (plR_nil I) | exact partC_ones hres.w | simp [Value.oneCell', str, u8]) rfl | exact e_store_agg rfl ti148 rfl rfl rfl (by first | exact chC_ones _ | exact pcC_ones _ | exact partC_ones (I := I) (plR_nil I) | exact partC_ones hres.w | simp [Value.oneCell', str, u8]) rfl)) ?_
      rintro _ _ _ ⟨rfl, rfl⟩
      refine l_nil ?_
      refine n_then ?_
      refine t_cutE (ι := PE × Nat × Look) (fun zz => Le I zz.2.2 ∧ PlR zz.2.2 zz.1.wv zz.1.word ∧ (zz.2.1 = 0 → dolR (Wn (m + 1)) kd (nth (s.drop i) 1 0) inner = .ok zz.1.pt) ∧ (zz.2.1 ≠ 0 → dolR (Wn (m + 1)) kd (nth (s.drop i) 1 0) inner = .bad zz.2.1)) (fun zz => [(9, .int .i64 (zz.2.1 : Int))]) [(0, _), (1, _), (4, _), (5, _), (6, _), (7, _), (38, _), (41, _), (11, _), (12, _)] (fun zz => zz.2.2) (fun zz => (row b12 148 (partC zz.1) :: row b 169 (rdC s kd dp v) :: tvec 148 5 partC v L :: F)) (sub_cons rfl (sub_cons rfl (sub_cons rfl (sub_cons rfl (sub_cons rfl (sub_cons rfl (sub_cons rfl (sub_cons rfl (sub_cons rfl (sub_cons rfl sub_nil)))))))))) ?_ ?_
      · skip
        refine t_block ?_
        refine t_seq ?_
        refine t_region ?_
        refine l_q rfl rfl rfl (q_move rfl rfl) ?_
        refine l_q rfl rfl rfl ((by first | exact q_index_strN rfl Tryz.underlying9 rfl rfl (by omega) | exact q_index_str rfl Tryz.underlying9 rfl rfl (by omega))) ?_
        refine l_q rfl rfl rfl (q_eql_u8c rfl rfl rfl rfl) ?_
        refine l_q rfl rfl rfl (q_assign rfl rfl) ?_
        refine l_nil ?_
        refine n_then ?_
        refine t_cond rfl (fun hc4 => ?_) (fun hc4 => ?_)
        · skip
          simp only [decide_eq_true_eq, decide_eq_false_iff_not] at hc4
          have h5 : nth (s.drop i) 1 0 = 123 := hc4
          refine t_region ?_
          refine l_q rfl rfl rfl (q_move rfl rfl) ?_
          refine l_q rfl rfl rfl (q_move rfl rfl) ?_
          refine l_e rfl rfl rfl (eff_call rfl rfl rfl Tryz.func134 (by kernel_rfl) rfl (fun w hw => braced_calls m (hW m rfl) b s kd dp v inner _ _ _ w (by omega) hkd (by omega) hG (picks_st1 (row b 169 (rdC s kd dp v)) hw))) ?_
          rintro _ J100 _ ⟨hJ100, x1, e1, rfl, rfl, hres⟩
          refine l_q rfl rfl rfl (q_move rfl rfl) ?_
          refine l_q rfl rfl rfl (q_extract rfl rfl rfl) ?_
          refine l_q rfl rfl rfl (q_extract rfl rfl rfl) ?_
          refine l_e0 rfl rfl ((by first | exact e_store_all rfl ti148 rfl rfl rfl (by first | exact chC_ones _ | exact pcC_ones _ | exact partC_ones (I := I) (plR_nil I) | exact partC_ones hres.w | simp [Value.oneCell', str, u8]) rfl | exact e_store_agg rfl ti148 rfl rfl rfl (by first | exact chC_ones _ | exact pcC_ones _ | exact partC_ones (I := I) (plR_nil I) | exact partC_ones hres.w | simp [Value.oneCell', str, u8]) rfl)) ?_
          rintro _ _ _ ⟨rfl, rfl⟩
          refine l_q rfl rfl rfl (q_assign rfl rfl) ?_
          refine l_nil ?_
          refine n_block ?_
          refine n_cut ((x1, e1, J100)) ?_ (sub_cons rfl sub_nil) (sub_cons rfl (sub_cons rfl (sub_cons rfl (sub_cons rfl (sub_cons rfl (sub_cons rfl (sub_cons rfl (sub_cons rfl (sub_cons rfl (sub_cons rfl sub_nil)))))))))) (fun _ h => by try dsimp only; exact subC_st h)
          · try dsimp only
            exact ⟨hJ100, hres.w, (dol_br h5 hres).1, (dol_br h5 hres).2⟩
        · skip
          simp only [decide_eq_true_eq, decide_eq_false_iff_not] at hc4
          have h5 : ¬ nth (s.drop i) 1 0 = 123 := hc4
          refine t_seq ?_
          refine t_region ?_
          refine l_q rfl rfl rfl (q_move rfl rfl) ?_
          refine l_q rfl rfl rfl (q_move rfl rfl) ?_
          refine l_q rfl rfl rfl (quiet_call rfl rfl rfl Tryz.func114 (by kernel_rfl) rfl ((fun w hw => quoted_pure b s kd dp v w (rowed_of hw)))) ?_
          refine l_q rfl rfl rfl (quiet_call rfl rfl rfl Tryz.func135 (by kernel_rfl) rfl ((fun w _ => expr_pure inner (decide (kd ≠ 0)) w (by omega)))) ?_
          refine l_q rfl rfl rfl (q_assign rfl rfl) ?_
          refine l_nil ?_
          refine n_then ?_
          refine t_cond rfl (fun hc5 => ?_) (fun hc5 => ?_)
          · skip
            have hel := exprB_len hc5
            refine t_seq ?_
            refine t_region ?_
            refine l_q rfl rfl rfl (q_fieldAddr rfl Tryz.underlying148 rfl rfl ti3 rfl rfl) ?_
            refine l_e0 rfl rfl (e_storeS rfl ti3 rfl rfl (by first | exact ⟨rfl, rfl⟩ | assumption | exact hvl1 | exact hone | exact hone) rfl (by first | (simp only [List.set_cons_succ, List.set_cons_zero]; rfl) | rfl)) ?_
            rintro _ _ _ ⟨rfl, rfl⟩
            refine l_q rfl rfl rfl (q_fieldAddr rfl Tryz.underlying148 rfl rfl ti9 rfl rfl) ?_
            refine l_e0 rfl rfl (e_storeS rfl ti9 rfl rfl (by first | exact ⟨rfl, rfl⟩ | assumption | exact hvl1 | exact hone | exact hone) rfl (by first | (simp only [List.set_cons_succ, List.set_cons_zero]; rfl) | rfl)) ?_
            rintro _ _ _ ⟨rfl, rfl⟩
            refine l_heap (H' := row b12 148 (partC (⟨4, [], [], nilV, [], (decide (kd ≠ 0))⟩ : PE)) :: _) ?_ (fun _ h => h)
            refine l_nil ?_
            refine n_then ?_
            refine t_draw [10, 15] [] [] mo (by kernel_rfl) (fun _ _ _ _ _ h => h) ?_
            refine r_qf 0 (by kernel_rfl) rfl rfl rfl rfl (fun _ => q_move rfl rfl) ?_
            refine r_qf 1 (by kernel_rfl) rfl rfl rfl rfl (fun _ => q_move rfl rfl) ?_
            refine r_qf 2 (by kernel_rfl) rfl rfl rfl rfl (fun _ => q_len_str rfl Tryz.underlying9 rfl) ?_
            refine r_qf 3 (by kernel_rfl) rfl rfl rfl rfl (fun _ => q_sub64 rfl rfl rfl (by omega)) ?_
            refine r_qf 4 (by kernel_rfl) rfl rfl rfl rfl (fun _ => q_slice_str rfl Tryz.underlying9 rfl rfl rfl (by omega)) ?_
            rw [show (inner.drop (1 : Int).toNat).take (((inner.length : Int) - 1).toNat - (1 : Int).toNat) = (inner.take (inner.length - 1)).drop 1 by rw [inner_three, show ((inner.length : Int) - 1).toNat - (1 : Int).toNat = inner.length - 2 by omega]; rfl]
            refine r_qf 5 (by kernel_rfl) rfl rfl rfl rfl (fun _ => q_move rfl rfl) ?_
            refine r_qf 6 (by kernel_rfl) rfl rfl rfl rfl (fun _ => q_nilCheck rfl rfl) ?_
            refine r_qf 7 (by kernel_rfl) rfl rfl rfl rfl (fun _ => q_fieldAddr rfl Tryz.underlying169 rfl rfl ti3 rfl rfl) ?_
            refine r_q1 8 (by kernel_rfl) rfl (Le.refl _) rfl rfl rfl (q_load_row rfl Tryz.underlying3 rfl rfl (by rfl)) ?_
            refine r_qf 9 (by kernel_rfl) rfl rfl rfl rfl (fun _ => q_add64 rfl rfl rfl (by omega)) ?_
            refine r_e 10 (by kernel_rfl) (by kernel_rfl) rfl (Le.refl _) rfl rfl rfl (eff_call rfl rfl rfl Tryz.func67 (by kernel_rfl) rfl (fun w hw => hW m rfl ((inner.take (inner.length - 1)).drop 1) 2 (dp + 1) _ _ _ w (by omega) (by omega) (by omega) (by rw [List.length_drop, List.length_take]; omega) hG hw)) ?_
            rintro _ J121 _ ⟨hJ121, rfl, vl, e1, rfl, hres⟩
            refine ⟨hJ121, .inr SubC.sub, ?_⟩
            obtain ⟨wl, hpw, hw1, hw2⟩ := hres.w
            have hvl1 := hpw.one
            refine r_qf 11 (by kernel_rfl) rfl rfl rfl rfl (fun _ => q_move rfl rfl) ?_
            refine r_qf 12 (by kernel_rfl) rfl rfl rfl rfl (fun _ => q_extract rfl rfl rfl) ?_
            refine r_qf 13 (by kernel_rfl) rfl rfl rfl rfl (fun _ => q_extract rfl rfl rfl) ?_
            refine r_qf 14 (by kernel_rfl) rfl rfl rfl rfl (fun _ => q_fieldAddr rfl Tryz.underlying148 rfl rfl ti96 rfl rfl) ?_
            refine r_e0 15 (by kernel_rfl) (by kernel_rfl) rfl (hJ121) rfl rfl (e_storeS rfl ti96 rfl rfl (by first | exact ⟨rfl, rfl⟩ | assumption | exact hvl1 | exact hone | exact hone) rfl (by first | (simp only [List.set_cons_succ, List.set_cons_zero]; rfl) | rfl)) ?_
            rintro _ _ _ ⟨rfl, rfl⟩
            refine ⟨Le.refl _, .inr SubC.sub, ?_⟩
            refine r_heap (H' := row b12 148 (partC (⟨4, [], [], vl, wl, (decide (kd ≠ 0))⟩ : PE)) :: _) ?_ (fun _ h => h)
            refine r_qf 16 (by kernel_rfl) rfl rfl rfl rfl (fun _ => q_assign rfl rfl) ?_
            refine r_end (by kernel_rfl) ?_
            refine n_block ?_
            refine n_cut ((⟨4, [], [], vl, wl, (decide (kd ≠ 0))⟩, e1, J121)) ?_ (sub_cons rfl sub_nil) (sub_cons rfl (sub_cons rfl (sub_cons rfl (sub_cons rfl (sub_cons rfl (sub_cons rfl (sub_cons rfl (sub_cons rfl (sub_cons rfl (sub_cons rfl sub_nil)))))))))) (fun _ h => by try dsimp only; exact subC_st h)
            · try dsimp only
              exact ⟨hJ121, hpw, fun h => dol_ex h5 hc5 (hw1 h), fun h => dol_exb h5 hc5 (hw2 h)⟩
          · skip
            have hc6 : exprB inner (decide (kd ≠ 0)) = false := hc5
            refine t_skip ?_
            refine n_block ?_
            refine n_cut (((⟨3, inner, [], nilV, [], (decide (kd ≠ 0))⟩ : PE), 0, I)) ?_ (sub_cons' rfl (by show Value.int IntKind.i64 (dl bg (scX r) : Int) = _; rw [hx]) (sub_nil)) (sub_cons rfl (sub_cons rfl (sub_cons rfl (sub_cons rfl (sub_cons rfl (sub_cons rfl (sub_cons rfl (sub_cons rfl (sub_cons rfl (sub_cons rfl sub_nil)))))))))) (fun _ h => by try dsimp only; exact subC_st h)
            · try dsimp only
              exact ⟨Le.refl _, plR_nil _, fun _ => by rw [dolR, if_neg h5, if_neg (by rw [hc6]; simp)]; rfl, fun h => absurd rfl h⟩
      rintro ⟨y, e2, J⟩ ⟨hIJ, hy, hd0, hd1⟩
      try dsimp only at *
      refine t_seq ?_
      refine t_seq ?_
      refine t_region ?_
      refine l_q rfl rfl rfl (q_move rfl rfl) ?_
      refine l_q rfl rfl rfl (q_neq rfl rfl rfl) ?_
      refine l_nil ?_
      refine n_then ?_
      refine t_cond rfl (fun hc6 => ?_) (fun hc6 => ?_)
      · skip
        try simp at hc6
        have he2 : e2 ≠ 0 := by omega
        have hbad := hds.1 _ (hd1 he2)
        refine t_seq ?_
        refine t_region ?_
        refine l_q rfl rfl rfl (q_move rfl rfl) ?_
        refine l_q rfl rfl rfl (q_assign rfl rfl) ?_
        refine l_q rfl rfl rfl (q_assign rfl rfl) ?_
        refine l_nil ?_
        refine n_then ?_
        refine t_ret ?_
        refine n_ret_then ?_
        refine n_ret2 rfl rfl rfl (fun w' hw => ?_)
        -- leaf 4
        exact ⟨_, rfl, J, _, StepPost.fail (v' := v) (L' := L) hIJ hbad he2 rfl (hWL.mono hIJ), subC_st hw⟩
      · skip
        try simp at hc6
        have he2 : e2 = 0 := by omega
        have hgood := hds.2 _ (hd0 he2)
        refine t_skip ?_
        refine n_then ?_
        refine t_seq ?_
        refine t_len v (fun hlv => ?_)
        refine t_draw [6, 7, 9, 12] [9, 12] [row b 169 (rdC s kd dp v), row b12 148 (partC y)] mo (by kernel_rfl) (fun _ _ _ _ _ h => h) ?_
        refine r_qf 0 (by kernel_rfl) rfl rfl rfl rfl (fun _ => q_move rfl rfl) ?_
        refine r_qf 1 (by kernel_rfl) rfl rfl rfl rfl (fun _ => q_nilCheck rfl rfl) ?_
        refine r_qf 2 (by kernel_rfl) rfl rfl rfl rfl (fun _ => q_fieldAddr rfl Tryz.underlying169 rfl rfl ti167 rfl rfl) ?_
        refine r_q0 3 (by kernel_rfl) rfl (Le.refl _) rfl rfl rfl (fun _ hI => q_load_row rfl Tryz.underlying167 rfl rfl (by rfl)) ?_
        refine r_q0 4 (by kernel_rfl) rfl (Le.refl _) rfl rfl rfl (fun _ hI => q_load_rowA rfl Tryz.underlying148 ti148 rfl rfl rfl) ?_
        refine r_qf 5 (by kernel_rfl) rfl rfl rfl rfl (fun _ => (by first | exact q_lenV rfl Tryz.underlying167 rfl | exact q_len rfl Tryz.underlying167 rfl (len_of hlv))) ?_
        refine r_e 6 (by kernel_rfl) (by kernel_rfl) rfl (Le.refl _) rfl rfl rfl (e_buildSlice1 rfl Tryz.underlying167 ti148 rfl rfl rfl (by first | exact One.cells (by assumption) | exact One.cells hvl1 | exact One.cells hone | exact One.cells hone | rfl) rfl) ?_
        rintro _ _ _ ⟨b134, rfl, rfl, rfl⟩
        refine ⟨Le.refl _, .inr SubC.sub, ?_⟩
        refine r_e 7 (by kernel_rfl) (by kernel_rfl) rfl (Le.refl _) rfl rfl rfl (e_appendT (f := partC) (c := pe0) rfl Tryz.underlying167 ti148 rfl rfl rfl rfl rfl rfl rfl (by first | exact partC_ones (I := I) (plR_nil I) | exact partC_ones (I := I) (plR_nil I) | exact byC_ones _ | exact chC_ones _ | exact pcC_ones _ | simp [Value.oneCell', str, u8] | exact ones1 (by assumption)) (by simp only [maxLen]; omega) (by omega)) ?_
        rintro v135 _ _ ⟨rfl, rfl⟩
        refine ⟨Le.refl _, .inr SubC.sub, ?_⟩
        have hlen135 : (L ++ [pe0]).length = L.length + 1 := by simp
        refine r_len v135 (fun hsh135 hone => ?_)
        refine r_qf 8 (by kernel_rfl) rfl rfl rfl rfl (fun _ => (by first | exact q_indexAddrVN rfl Tryz.underlying167 ti148 rfl rfl (by omega) | exact q_indexAddrN rfl Tryz.underlying167 ti148 rfl rfl (hsh74) (by omega) | exact q_indexAddrN rfl Tryz.underlying167 ti148 rfl rfl (hsh135) (by omega) | exact q_indexAddrV rfl Tryz.underlying167 ti148 rfl rfl (by omega) | exact q_indexAddr rfl Tryz.underlying167 ti148 rfl rfl (hsh74) (by omega) | exact q_indexAddr rfl Tryz.underlying167 ti148 rfl rfl (hsh135) (by omega))) ?_
        refine r_qf 10 (by kernel_rfl) rfl rfl rfl rfl (fun _ => q_nilCheck rfl rfl) ?_
        refine r_qf 11 (by kernel_rfl) rfl rfl rfl rfl (fun _ => q_fieldAddr rfl Tryz.underlying169 rfl rfl ti167 rfl rfl) ?_
        refine r_two 9 12 (by kernel_rfl) (by kernel_rfl) ?_ ?_
        · skip
          refine x_e0 9 rfl rfl (Le.refl _) rfl rfl (e_storeSA (y) rfl ti148 rfl rfl (partC_ones hy) (fun _ => rfl) (by simp) (by decide)) ?_
          rintro _ _ _ ⟨rfl, rfl⟩
          refine ⟨Le.refl _, .inl rfl, ?_⟩
          refine r_heap (H' := tvec 148 5 partC v135 (L ++ [y]) :: _) ?_ (fun _ h => by rw [set_snoc] at h; exact h)
          refine r_e0 12 (by kernel_rfl) (by kernel_rfl) rfl (Le.refl _) rfl rfl (e_storeS rfl ti167 rfl rfl (by first | exact ⟨rfl, rfl⟩ | assumption | exact hvl1 | exact hone | exact hone) rfl (by first | (simp only [List.set_cons_succ, List.set_cons_zero]; rfl) | rfl)) ?_
          rintro _ _ _ ⟨rfl, rfl⟩
          refine ⟨Le.refl _, .inl rfl, ?_⟩
          refine r_heap (H' := row b 169 (rdC s kd dp v135) :: _) ?_ (fun _ h => h)
          refine r_end (by kernel_rfl) ?_
          refine n_then ?_
          refine t_seq ?_
          refine t_region ?_
          refine l_q rfl rfl rfl (q_move rfl rfl) ?_
          refine l_q rfl rfl rfl (q_move rfl rfl) ?_
          refine l_q rfl rfl rfl (q_sub64 rfl rfl rfl (by omega)) ?_
          refine l_q rfl rfl rfl (q_assign rfl rfl) ?_
          refine l_q rfl rfl rfl (q_assign rfl rfl) ?_
          refine l_nil ?_
          refine n_then ?_
          refine t_ret ?_
          refine n_ret2 rfl rfl rfl (fun w' hw => ?_)
          -- leaf 5
          rw [show (((i + k : Nat) : Int)) - (i : Int) = (k : Int) by omega]
          exact ⟨_, rfl, J, _, StepPost.good (v' := v135) (L' := L ++ [y]) hIJ hgood rfl ((hWL.mono hIJ).app (wordsR_one hy)) (by rw [List.map_append]; rfl), subC_st hw⟩
        · skip
          refine x_e0 12 rfl rfl (Le.refl _) rfl rfl (e_storeS rfl ti167 rfl rfl (by first | exact ⟨rfl, rfl⟩ | assumption | exact hvl1 | exact hone | exact hone) rfl (by first | (simp only [List.set_cons_succ, List.set_cons_zero]; rfl) | rfl)) ?_
          rintro _ _ _ ⟨rfl, rfl⟩
          refine ⟨Le.refl _, .inl rfl, ?_⟩
          refine r_heap (H' := row b 169 (rdC s kd dp v135) :: _) ?_ (fun _ h => h)
          refine r_e0 9 (by kernel_rfl) (by kernel_rfl) rfl (Le.refl _) rfl rfl (e_storeSA (y) rfl ti148 rfl rfl (partC_ones hy) (fun _ => rfl) (by simp) (by decide)) ?_
          rintro _ _ _ ⟨rfl, rfl⟩
          refine ⟨Le.refl _, .inl rfl, ?_⟩
          refine r_heap (H' := tvec 148 5 partC v135 (L ++ [y]) :: _) ?_ (fun _ h => by rw [set_snoc] at h; exact h)
          refine r_end (by kernel_rfl) ?_
          refine n_then ?_
          refine t_seq ?_
          refine t_region ?_
          refine l_q rfl rfl rfl (q_move rfl rfl) ?_
          refine l_q rfl rfl rfl (q_move rfl rfl) ?_
          refine l_q rfl rfl rfl (q_sub64 rfl rfl rfl (by omega)) ?_
          refine l_q rfl rfl rfl (q_assign rfl rfl) ?_
          refine l_q rfl rfl rfl (q_assign rfl rfl) ?_
          refine l_nil ?_
          refine n_then ?_
          refine t_ret ?_
          refine n_ret2 rfl rfl rfl (fun w' hw => ?_)
          -- leaf 6
          rw [show (((i + k : Nat) : Int)) - (i : Int) = (k : Int) by omega]
          exact ⟨_, rfl, J, _, StepPost.good (v' := v135) (L' := L ++ [y]) hIJ hgood rfl ((hWL.mono hIJ).app (wordsR_one hy)) (by rw [List.map_append]; rfl), subC_st hw⟩
end Go.Tri
