/-
  The statement: ArithSums.
-/
import Derived.Test.YtjdcefhllbfacaaDoorAB4
import Derived.Test.YtjdcefhllbfacaaDoorPArN
import Derived.Test.YtjdcefhllbfacaaDoorTriB17
namespace Go.Tri
open Go.Proofs Go.RowKit
theorem sums_len (a b : Int) : ∀ p ∈ sumT a b, p.1.length ≤ 1000000 := by
  intro p hp
  simp only [sumT, List.mem_cons, List.not_mem_nil, or_false] at hp
  rcases hp with rfl | rfl | rfl | rfl | rfl | rfl | rfl | rfl | rfl | rfl <;> simp
theorem sm_both {a b : Int} (ha : I64 a) (hb : I64 b) : ∃ (r : Int) (k : Nat), evalP [97, 47, 98, 42, 98, 43, 97, 37, 98] ((smV a b).map Vr.nv) = (r, [], k) ∧ (b = 0 → r = 0 ∧ k = 61) ∧ (b ≠ 0 → r = a ∧ k = 0) := by
  by_cases h : b = 0
  · exact ⟨0, 61, sm_zero ha hb h, fun _ => ⟨rfl, rfl⟩, fun h2 => absurd h h2⟩
  · exact ⟨a, 0, sm_quo ha hb h, fun h2 => absurd h2 h, fun _ => ⟨rfl, rfl⟩⟩
theorem sm_cmp (a b : Int) : ¬ ((decide (trI (decide (a < b)) = 1) != decide (a < b)) || (decide (trI (decide (a = b)) = 1) != decide (a = b))) = true := by
  by_cases h1 : a < b <;> by_cases h2 : a = b <;> simp [h1, h2, trI]
set_option maxRecDepth 10000 in
theorem arithSums_pure (a b : Int) (w : World) (ha : I64 a) (hb : I64 b) (hG : EnvI (look w)) : Pure Tryd.prog 4 [.int .i64 a, .int .i64 b] w (.bool true) := by
  have hla := itoa_len a ha
  have hlb := itoa_len b hb
  have h63 := and63 b
  refine enter Tryd.func4 rfl Tryd.ntmps4 rfl (St.start w (look w) (Le.refl _)) ?_
  refine t_seq ?_
  refine t_region ?_
  refine l_q rfl rfl rfl (q_assign rfl rfl) ?_
  refine l_nil ?_
  refine n_then ?_
  refine t_seq ?_
  refine t_seq ?_
  refine t_region ?_
  refine l_q rfl rfl rfl (quiet_call rfl rfl rfl Tryd.func7 (by kernel_rfl) rfl ((fun w hw => awake_pure w (hG.mono hw.le)))) ?_
  refine l_q rfl rfl rfl (q_not rfl rfl) ?_
  refine l_nil ?_
  refine n_then ?_
  refine t_cond rfl (fun hc0 => ?_) (fun hc0 => ?_)
  · skip
    try simp at hc0
  · skip
    try simp at hc0
    refine t_skip ?_
    refine n_then ?_
    refine t_seq ?_
    refine t_region ?_
    refine l_q rfl rfl rfl (q_move rfl rfl) ?_
    refine l_q rfl rfl rfl (quiet_call rfl rfl rfl Tryd.func10 (by kernel_rfl) rfl ((fun w _ => dec_pure _ w (by assumption)))) ?_
    refine l_q rfl rfl rfl (q_build (pl := [(_, _), (_, _), (_, _), (_, _), (_, _)]) (cs := (vrC ⟨[97], Lib.itoa a, false, false, false⟩).toArray) rfl Tryd.underlying32 ti32 ⟨rfl, ⟨_, _, ti9⟩, rfl, ⟨_, _, ti9⟩, rfl, ⟨_, _, ti4⟩, rfl, ⟨_, _, ti4⟩, rfl, ⟨_, _, ti4⟩, trivial⟩ rfl rfl) ?_
    refine l_q rfl rfl rfl (q_move rfl rfl) ?_
    refine l_q rfl rfl rfl (quiet_call rfl rfl rfl Tryd.func10 (by kernel_rfl) rfl ((fun w _ => dec_pure _ w (by assumption)))) ?_
    refine l_q rfl rfl rfl (q_build (pl := [(_, _), (_, _), (_, _), (_, _), (_, _)]) (cs := (vrC ⟨[98], Lib.itoa b, false, false, false⟩).toArray) rfl Tryd.underlying32 ti32 ⟨rfl, ⟨_, _, ti9⟩, rfl, ⟨_, _, ti9⟩, rfl, ⟨_, _, ti4⟩, rfl, ⟨_, _, ti4⟩, rfl, ⟨_, _, ti4⟩, trivial⟩ rfl rfl) ?_
    refine l_e rfl rfl rfl (e_buildSliceN (vs := [_, _]) (css := [vrC ⟨[97], Lib.itoa a, false, false, false⟩, vrC ⟨[98], Lib.itoa b, false, false, false⟩]) rfl Tryd.underlying22 ti32 rfl rfl rfl rfl (rfl) (by simp [vrC])) ?_
    rintro _ _ _ ⟨b28, rfl, rfl, rfl⟩
    refine l_heap (H' := tvec 32 5 vrC (.slice (some ⟨b28, 0, none⟩) 2 2) (smV a b) :: []) ?_ (fun _ h => st_rowVec h rfl (by decide))
    refine l_freezeT (f := vrC) (l := (smV a b)) (.slice (some ⟨b28, 0, none⟩) 2 2) (fun _ => rfl) (fun J hJ hsl => ?_)
    refine l_q rfl rfl rfl (q_assign rfl rfl) ?_
    refine l_nil ?_
    refine n_then ?_
    refine t_seq ?_
    refine t_seq ?_
    refine t_region ?_
    refine l_e rfl rfl rfl (e_makeMap rfl) ?_
    rintro _ _ _ ⟨b29, rfl, rfl, rfl⟩
    refine l_q rfl rfl rfl (q_move rfl rfl) ?_
    refine l_q rfl rfl rfl (q_move rfl rfl) ?_
    refine l_q rfl rfl rfl (q_add rfl rfl rfl) ?_
    refine l_e0 rfl rfl (e_insert rfl Tryd.underlying34 Tryd.underlying9 rfl rfl rfl (by kernel_rfl)) ?_
    rintro _ _ _ ⟨rfl, rfl⟩
    refine l_q rfl rfl rfl (q_move rfl rfl) ?_
    refine l_q rfl rfl rfl (q_move rfl rfl) ?_
    refine l_q rfl rfl rfl (q_sub rfl rfl rfl) ?_
    refine l_e0 rfl rfl (e_insert rfl Tryd.underlying34 Tryd.underlying9 rfl rfl rfl (by kernel_rfl)) ?_
    rintro _ _ _ ⟨rfl, rfl⟩
    refine l_q rfl rfl rfl (q_move rfl rfl) ?_
    refine l_q rfl rfl rfl (q_move rfl rfl) ?_
    refine l_q rfl rfl rfl (q_mul rfl rfl rfl) ?_
    refine l_e0 rfl rfl (e_insert rfl Tryd.underlying34 Tryd.underlying9 rfl rfl rfl (by kernel_rfl)) ?_
    rintro _ _ _ ⟨rfl, rfl⟩
    refine l_q rfl rfl rfl (q_move rfl rfl) ?_
    refine l_q rfl rfl rfl (q_move rfl rfl) ?_
    refine l_q rfl rfl rfl (q_and rfl rfl rfl) ?_
    refine l_e0 rfl rfl (e_insert rfl Tryd.underlying34 Tryd.underlying9 rfl rfl rfl (by kernel_rfl)) ?_
    rintro _ _ _ ⟨rfl, rfl⟩
    refine l_q rfl rfl rfl (q_move rfl rfl) ?_
    refine l_q rfl rfl rfl (q_move rfl rfl) ?_
    refine l_q rfl rfl rfl (q_or rfl rfl rfl) ?_
    refine l_e0 rfl rfl (e_insert rfl Tryd.underlying34 Tryd.underlying9 rfl rfl rfl (by kernel_rfl)) ?_
    rintro _ _ _ ⟨rfl, rfl⟩
    refine l_q rfl rfl rfl (q_move rfl rfl) ?_
    refine l_q rfl rfl rfl (q_move rfl rfl) ?_
    refine l_q rfl rfl rfl (q_xor rfl rfl rfl) ?_
    refine l_e0 rfl rfl (e_insert rfl Tryd.underlying34 Tryd.underlying9 rfl rfl rfl (by kernel_rfl)) ?_
    rintro _ _ _ ⟨rfl, rfl⟩
    refine l_q rfl rfl rfl (q_move rfl rfl) ?_
    refine l_q rfl rfl rfl (q_unxor rfl rfl) ?_
    refine l_e0 rfl rfl (e_insert rfl Tryd.underlying34 Tryd.underlying9 rfl rfl rfl (by kernel_rfl)) ?_
    rintro _ _ _ ⟨rfl, rfl⟩
    refine l_q rfl rfl rfl (q_move rfl rfl) ?_
    refine l_q rfl rfl rfl (q_neg rfl rfl) ?_
    refine l_e0 rfl rfl (e_insert rfl Tryd.underlying34 Tryd.underlying9 rfl rfl rfl (by kernel_rfl)) ?_
    rintro _ _ _ ⟨rfl, rfl⟩
    refine l_q rfl rfl rfl (q_move rfl rfl) ?_
    refine l_q rfl rfl rfl (q_move rfl rfl) ?_
    refine l_q rfl rfl rfl (q_and rfl rfl rfl) ?_
    refine l_q rfl rfl rfl (q_conv_int (r := andI b 63) rfl Tryd.underlying2 Tryd.underlying33 rfl (IntWalk.u64_in _ (by omega))) ?_
    refine l_q rfl rfl rfl (q_shl rfl rfl rfl h63.1) ?_
    refine l_e0 rfl rfl (e_insert rfl Tryd.underlying34 Tryd.underlying9 rfl rfl rfl (by kernel_rfl)) ?_
    rintro _ _ _ ⟨rfl, rfl⟩
    refine l_q rfl rfl rfl (q_move rfl rfl) ?_
    refine l_q rfl rfl rfl (q_move rfl rfl) ?_
    refine l_q rfl rfl rfl (q_and rfl rfl rfl) ?_
    refine l_q rfl rfl rfl (q_conv_int (r := andI b 63) rfl Tryd.underlying2 Tryd.underlying33 rfl (IntWalk.u64_in _ (by omega))) ?_
    refine l_q rfl rfl rfl (q_shr rfl rfl rfl h63.1) ?_
    refine l_e0 rfl rfl (e_insert rfl Tryd.underlying34 Tryd.underlying9 rfl rfl rfl (by kernel_rfl)) ?_
    rintro _ _ _ ⟨rfl, rfl⟩
    refine l_q rfl rfl rfl (q_move rfl rfl) ?_
    refine l_heap (H' := obj b29 (mapO (sumT a b)) :: []) ?_ (fun _ h => h)
    refine l_e rfl rfl rfl (e_rangeMap (T := sumT a b) rfl Tryd.underlying34 rfl List.mem_cons_self) ?_
    rintro _ _ _ ⟨b63, rfl, rfl, rfl⟩
    refine l_nil ?_
    refine n_then ?_
    refine t_block ?_
    refine t_loopE (ι := Array Nat × Look) (fun zz => Le J zz.2) (fun zz => leftN (sumT a b) zz.1) (fun zz => []) [(0, _), (1, _), (21, _), (5, _), (63, _)] (fun zz => zz.2) (fun zz => (obj b63 (iterO b29 (sumT a b).length zz.1) :: obj b29 (mapO (sumT a b)) :: [])) (#[], J) ?_ (sub_nil) (sub_cons rfl (sub_cons rfl (sub_cons rfl (sub_cons rfl (sub_cons rfl sub_nil))))) (fun _ h => subC_st h) ?_
    · try dsimp only
      exact Le.refl _
    rintro ⟨sn, JJ⟩ hJJ
    try dsimp only at *
    refine t_seq ?_
    refine t_region ?_
    refine l_e rfl rfl rfl (e_nextMap (T := sumT a b) (bm := b29) rfl rfl (List.mem_cons_of_mem _ List.mem_cons_self)) ?_
    rintro _ _ _ ⟨vs64, c64, sn64, rfl, hz64, hc64, rfl, rfl⟩
    refine l_q rfl rfl rfl (q_extract rfl rfl hz64) ?_
    refine l_nil ?_
    refine n_then ?_
    refine t_seq ?_
    refine t_cond rfl (fun hc1 => ?_) (fun hc1 => ?_)
    · skip
      obtain ⟨e1, he1, hsn1, hlt1⟩ := hc64 hc1
      subst hsn1
      obtain ⟨p, hp, hk1, hv1⟩ := mapL_mem he1
      refine t_skip ?_
      refine n_then ?_
      refine t_block ?_
      refine t_seq ?_
      refine t_region ?_
      refine l_q rfl rfl rfl (q_entry (T := sumT a b) (e := e1) (p := p) rfl rfl List.mem_cons_self (List.mem_cons_of_mem _ List.mem_cons_self) he1 hk1 hv1) ?_
      refine l_q rfl rfl rfl (q_extract rfl rfl rfl) ?_
      refine l_q rfl rfl rfl (q_extract rfl rfl rfl) ?_
      refine l_q rfl rfl rfl (q_assign rfl rfl) ?_
      refine l_q rfl rfl rfl (q_assign rfl rfl) ?_
      refine l_nil ?_
      refine n_then ?_
      refine t_seq ?_
      refine t_region ?_
      refine l_q rfl rfl rfl (q_move rfl rfl) ?_
      refine l_q rfl rfl rfl (q_move rfl rfl) ?_
      refine l_e rfl rfl rfl (eff_call rfl rfl rfl Tryd.func8 (by kernel_rfl) rfl (fun w hw => eval_calls p.1 (.slice (some ⟨b28, 0, none⟩) 2 2) (smV a b) _ _ _ w (sums_len a b p hp) (hsl.mono hJJ) (vars_ok2 (by show (Lib.itoa a).length ≤ _; omega) (by show (Lib.itoa b).length ≤ _; omega)) (hG.mono (hJ.trans hJJ)) hw)) ?_
      rintro _ J72 _ ⟨hJ72, rfl, sl72, rfl, hs72⟩
      rw [sums_ok ha hb p hp] at hs72 ⊢
      refine l_q rfl rfl rfl (q_move rfl rfl) ?_
      refine l_q rfl rfl rfl (q_extract rfl rfl rfl) ?_
      refine l_q rfl rfl rfl (q_extract rfl rfl rfl) ?_
      refine l_q rfl rfl rfl (q_extract rfl rfl rfl) ?_
      refine l_q rfl rfl rfl (q_assign rfl rfl) ?_
      refine l_q rfl rfl rfl (q_assign rfl rfl) ?_
      refine l_q rfl rfl rfl (q_assign rfl rfl) ?_
      refine l_nil ?_
      refine n_then ?_
      refine t_seq ?_
      refine t_qreg ?_
      refine s_q rfl rfl rfl (q_move rfl rfl) ?_
      refine s_q rfl rfl rfl (q_move rfl rfl) ?_
      refine s_q rfl rfl rfl (q_neq rfl rfl rfl) ?_
      refine s_q rfl rfl rfl (q_move rfl rfl) ?_
      refine s_or2 3 3 79 83 82 _ _ rfl rfl rfl rfl rfl rfl (fun h83 => by
          try simp at h83
          refine s_g rfl rfl rfl rfl rfl rfl (q_move rfl rfl) ?_
          refine s_g rfl rfl rfl rfl rfl rfl ((by first | exact q_lenV rfl Tryd.underlying24 rfl | exact q_len rfl Tryd.underlying24 rfl (Sl.lenOf (n := 0) hs72 rfl))) ?_
          refine s_g rfl rfl rfl rfl rfl rfl (q_neq rfl rfl rfl) ?_
          exact s_val rfl
        ) (wanted_n rfl) rfl rfl rfl ?_
      refine s_q rfl rfl rfl (q_move rfl rfl) ?_
      refine s_or2 2 8 84 87 86 _ _ rfl rfl rfl rfl rfl rfl (fun h87 => by
          try simp at h87
          refine s_g rfl rfl rfl rfl rfl rfl (q_move rfl rfl) ?_
          refine s_g rfl rfl rfl rfl rfl rfl (q_neq rfl rfl rfl) ?_
          exact s_val rfl
        ) (wanted_n rfl) rfl rfl rfl ?_
      refine s_done ?_
      refine n_then ?_
      refine t_cond rfl (fun hc2 => ?_) (fun hc2 => ?_)
      · skip
        exact absurd hc2 (by simp)
      · skip
        refine t_skip ?_
        refine n_block ?_
        refine n_roundE ((sn.push e1.born, J72)) ?_ ?_ (sub_nil) (sub_cons rfl (sub_cons rfl (sub_cons rfl (sub_cons rfl (sub_cons rfl sub_nil))))) (fun _ h => by try dsimp only; exact subC_st h)
        · try dsimp only
          exact hJJ.trans hJ72
        · try dsimp only
          exact hlt1
    · skip
      refine t_exit ?_
      refine n_exit_then ?_
      refine n_exit_then ?_
      refine n_exit_block ?_
      refine n_then ?_
      refine t_seq ?_
      refine t_region ?_
      refine l_q rfl rfl rfl (q_move rfl rfl) ?_
      refine l_e rfl rfl rfl (eff_call rfl rfl rfl Tryd.func8 (by kernel_rfl) rfl (fun w hw => eval_calls [97, 60, 98] (.slice (some ⟨b28, 0, none⟩) 2 2) (smV a b) _ _ _ w (by decide) (hsl.mono hJJ) (vars_ok2 (by show (Lib.itoa a).length ≤ _; omega) (by show (Lib.itoa b).length ≤ _; omega)) (hG.mono (hJ.trans hJJ)) hw)) ?_
      rintro _ J90 _ ⟨hJ90, rfl, sl90, rfl, hs90⟩
      rw [sm_less ha hb] at hs90 ⊢
      refine l_q rfl rfl rfl (q_move rfl rfl) ?_
      refine l_q rfl rfl rfl (q_extract rfl rfl rfl) ?_
      refine l_q rfl rfl rfl (q_extract rfl rfl rfl) ?_
      refine l_q rfl rfl rfl (q_extract rfl rfl rfl) ?_
      refine l_q rfl rfl rfl (q_assign rfl rfl) ?_
      refine l_q rfl rfl rfl (q_assign rfl rfl) ?_
      refine l_q rfl rfl rfl (q_assign rfl rfl) ?_
      refine l_nil ?_
      refine n_then ?_
      refine t_seq ?_
      refine t_region ?_
      refine l_q rfl rfl rfl (q_move rfl rfl) ?_
      refine l_e rfl rfl rfl (eff_call rfl rfl rfl Tryd.func8 (by kernel_rfl) rfl (fun w hw => eval_calls [97, 61, 61, 98] (.slice (some ⟨b28, 0, none⟩) 2 2) (smV a b) _ _ _ w (by decide) (hsl.mono (hJJ.trans hJ90)) (vars_ok2 (by show (Lib.itoa a).length ≤ _; omega) (by show (Lib.itoa b).length ≤ _; omega)) (hG.mono ((hJ.trans hJJ).trans hJ90)) hw)) ?_
      rintro _ J96 _ ⟨hJ96, rfl, sl96, rfl, hs96⟩
      rw [sm_same ha hb] at hs96 ⊢
      refine l_q rfl rfl rfl (q_move rfl rfl) ?_
      refine l_q rfl rfl rfl (q_extract rfl rfl rfl) ?_
      refine l_q rfl rfl rfl (q_extract rfl rfl rfl) ?_
      refine l_q rfl rfl rfl (q_extract rfl rfl rfl) ?_
      refine l_q rfl rfl rfl (q_assign rfl rfl) ?_
      refine l_q rfl rfl rfl (q_assign rfl rfl) ?_
      refine l_q rfl rfl rfl (q_assign rfl rfl) ?_
      refine l_nil ?_
      refine n_then ?_
      refine t_seq ?_
      refine t_seq ?_
      refine t_qreg ?_
      refine s_q rfl rfl rfl (q_move rfl rfl) ?_
      refine s_q rfl rfl rfl (q_eql rfl rfl rfl) ?_
      refine s_q rfl rfl rfl (q_move rfl rfl) ?_
      refine s_q rfl rfl rfl (q_move rfl rfl) ?_
      refine s_q rfl rfl rfl (q_lss rfl rfl rfl) ?_
      refine s_q rfl rfl rfl (q_neq_bool rfl Tryd.underlying4 rfl rfl) ?_
      refine s_q rfl rfl rfl (q_move rfl rfl) ?_
      refine s_or2 6 6 106 113 112 _ _ rfl rfl rfl rfl rfl rfl (fun h113 => by
          try simp at h113
          refine s_g rfl rfl rfl rfl rfl rfl (q_move rfl rfl) ?_
          refine s_g rfl rfl rfl rfl rfl rfl (q_eql rfl rfl rfl) ?_
          refine s_g rfl rfl rfl rfl rfl rfl (q_move rfl rfl) ?_
          refine s_g rfl rfl rfl rfl rfl rfl (q_move rfl rfl) ?_
          refine s_g rfl rfl rfl rfl rfl rfl (q_eql rfl rfl rfl) ?_
          refine s_g rfl rfl rfl rfl rfl rfl (q_neq_bool rfl Tryd.underlying4 rfl rfl) ?_
          exact s_val rfl
        ) (wanted_n rfl) rfl rfl rfl ?_
      refine s_done ?_
      refine n_then ?_
      refine t_cond rfl (fun hc3 => ?_) (fun hc3 => ?_)
      · skip
        exact absurd hc3 (sm_cmp a b)
      · skip
        refine t_skip ?_
        refine n_then ?_
        refine t_seq ?_
        refine t_region ?_
        refine l_q rfl rfl rfl (q_move rfl rfl) ?_
        refine l_e rfl rfl rfl (eff_call rfl rfl rfl Tryd.func8 (by kernel_rfl) rfl (fun w hw => eval_calls [97, 47, 98, 42, 98, 43, 97, 37, 98] (.slice (some ⟨b28, 0, none⟩) 2 2) (smV a b) _ _ _ w (by decide) (hsl.mono ((hJJ.trans hJ90).trans hJ96)) (vars_ok2 (by show (Lib.itoa a).length ≤ _; omega) (by show (Lib.itoa b).length ≤ _; omega)) (hG.mono (((hJ.trans hJJ).trans hJ90).trans hJ96)) hw)) ?_
        rintro _ J116 _ ⟨hJ116, rfl, sl116, rfl, hs116⟩
        obtain ⟨r, k, hev⟩ : ∃ (r : Int) (k : Nat), evalP [97, 47, 98, 42, 98, 43, 97, 37, 98] ((smV a b).map Vr.nv) = (r, [], k) ∧ (b = 0 → r = 0 ∧ k = 61) ∧ (b ≠ 0 → r = a ∧ k = 0) := sm_both ha hb
        obtain ⟨hev, hr0, hr1⟩ := hev
        rw [hev] at hs116 ⊢
        refine l_q rfl rfl rfl (q_move rfl rfl) ?_
        refine l_q rfl rfl rfl (q_extract rfl rfl rfl) ?_
        refine l_q rfl rfl rfl (q_extract rfl rfl rfl) ?_
        refine l_q rfl rfl rfl (q_extract rfl rfl rfl) ?_
        refine l_q rfl rfl rfl (q_assign rfl rfl) ?_
        refine l_q rfl rfl rfl (q_assign rfl rfl) ?_
        refine l_q rfl rfl rfl (q_assign rfl rfl) ?_
        refine l_nil ?_
        refine n_then ?_
        refine t_seq ?_
        refine t_seq ?_
        refine t_region ?_
        refine l_q rfl rfl rfl (q_move rfl rfl) ?_
        refine l_q rfl rfl rfl (q_eql rfl rfl rfl) ?_
        refine l_nil ?_
        refine n_then ?_
        refine t_cond rfl (fun hc4 => ?_) (fun hc4 => ?_)
        · skip
          try simp at hc4
          refine t_seq ?_
          refine t_qreg ?_
          refine s_q rfl rfl rfl (q_move rfl rfl) ?_
          refine s_q rfl rfl rfl (q_eql rfl rfl rfl) ?_
          refine s_q rfl rfl rfl (q_move rfl rfl) ?_
          refine s_and2 2 2 124 127 126 _ _ rfl rfl rfl rfl rfl rfl (fun h127 => by
              try simp at h127
              refine s_g rfl rfl rfl rfl rfl rfl (q_move rfl rfl) ?_
              refine s_g rfl rfl rfl rfl rfl rfl (q_eql rfl rfl rfl) ?_
              exact s_val rfl
            ) (wanted_n rfl) rfl rfl rfl ?_
          refine s_q rfl rfl rfl (q_assign rfl rfl) ?_
          refine s_done ?_
          refine n_then ?_
          refine t_ret ?_
          refine n_ret_then ?_
          refine n_ret1 rfl rfl (fun w' hw => ?_)
          -- leaf 0
          refine ⟨?_, (hw.less ((((hJ.trans hJJ).trans hJ90).trans hJ96).trans hJ116)).below⟩
          simp [hr0, hr1, hc4]
        · skip
          try simp at hc4
          refine t_skip ?_
          refine n_then ?_
          refine t_seq ?_
          refine t_qreg ?_
          refine s_q rfl rfl rfl (q_move rfl rfl) ?_
          refine s_q rfl rfl rfl (q_eql rfl rfl rfl) ?_
          refine s_q rfl rfl rfl (q_move rfl rfl) ?_
          refine s_and2 3 2 130 134 133 _ _ rfl rfl rfl rfl rfl rfl (fun h134 => by
              try simp at h134
              refine s_g rfl rfl rfl rfl rfl rfl (q_move rfl rfl) ?_
              refine s_g rfl rfl rfl rfl rfl rfl (q_move rfl rfl) ?_
              refine s_g rfl rfl rfl rfl rfl rfl (q_eql rfl rfl rfl) ?_
              exact s_val rfl
            ) (wanted_n rfl) rfl rfl rfl ?_
          refine s_q rfl rfl rfl (q_assign rfl rfl) ?_
          refine s_done ?_
          refine n_then ?_
          refine t_ret ?_
          refine n_ret1 rfl rfl (fun w' hw => ?_)
          -- leaf 1
          refine ⟨?_, (hw.less ((((hJ.trans hJJ).trans hJ90).trans hJ96).trans hJ116)).below⟩
          simp [hr0, hr1, hc4]
end Go.Tri
