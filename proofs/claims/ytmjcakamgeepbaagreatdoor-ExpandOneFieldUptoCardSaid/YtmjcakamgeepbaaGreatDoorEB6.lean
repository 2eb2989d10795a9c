/-
 A text read into parts.
-/
import Derived.Test.YtmjcakamgeepbaaGreatDoorEB5
namespace Go.Tri
open Go.Proofs Go.RowKit
set_option maxRecDepth 10000
def RRes (r : PR) (I : Look) (L : List PE) (e : Nat) : Prop := match r with
 | .ok l => e = 0 ∧ l = L.map PE.pt ∧ WordsR I L
 | .bad e2 => e = e2 ∧ e ≠ 0
theorem RRes.t {r : PR} {I : Look} {L : List PE} {e : Nat} (h : RRes r I L e) (he : e = 0) : r = .ok (L.map PE.pt) ∧ WordsR I L := by
 cases r with
 | ok l => exact ⟨by rw [h.2.1], h.2.2⟩
 | bad e2 => exact absurd he h.2
theorem RRes.f {r : PR} {I : Look} {L : List PE} {e : Nat} (h : RRes r I L e) (he : e ≠ 0) : r = .bad e := by
 cases r with
 | ok l => exact absurd h.1 he
 | bad e2 => rw [h.1]
theorem tilde_val {kd : Nat} {s : List UInt8} {b : Bool} (h : (decide ((kd : Int) = 0) && (decide (s = [126]) || stB s [126, 47])) = b) : tildeB kd s = b := by
 rw [← h]; unfold tildeB
 by_cases h1 : kd = 0
 ·rw [decide_eq_true h1, decide_eq_true (show (kd : Int) = 0 by omega)]
 ·rw [decide_eq_false h1, decide_eq_false (show ¬ (kd : Int) = 0 by omega)]
theorem tilde_len {kd : Nat} {s : List UInt8} (h : tildeB kd s = true) : 1 ≤ s.length := by
 unfold tildeB at h; rw [Bool.and_eq_true, Bool.or_eq_true] at h; rcases h.2 with h | h
 ·have h2 := of_decide_eq_true h
  subst h2; decide
 ·have := stB_len h; simp at this; omega
theorem quot_cond {c : UInt8} {kd : Nat} (h : ((decide (c = 39) || decide (c = 34)) && decide ((kd : Int) = 0)) = true) : (c = 39 ∨ c = 34) ∧ kd = 0 := by
 simp only [Bool.and_eq_true, Bool.or_eq_true, decide_eq_true_eq] at h; exact ⟨h.1, by omega⟩
theorem quot_ncond {c : UInt8} {kd : Nat} (h : ((decide (c = 39) || decide (c = 34)) && decide ((kd : Int) = 0)) = false) : ¬ ((c = 39 ∨ c = 34) ∧ kd = 0) := fun ⟨h1, h2⟩ => by
 have h3 : ((decide (c = 39) || decide (c = 34)) && decide ((kd : Int) = 0)) = true := by
  simp only [Bool.and_eq_true, Bool.or_eq_true, decide_eq_true_eq]; exact ⟨h1, by omega⟩
 rw [h3] at h; cases h
theorem read_calls (n : Nat) (hW : ∀ m, n = m + 1 → WithinOk m) (b : Nat) (s : List UInt8) (kd dp : Nat) (I : Look) (F : List HA) (w0 w : World) (hn9 : 24 - dp = n) (hd : dp ≤ 24) (hs : s.length ≤ 100000000) (hkd : kd ≤ 2) (hG : EnvI I) (hw0 : St w0 I (row b 135 (rdC s kd dp nilV) :: tvec 120 5 partC nilV [] :: F) w) : Calls Tryz.prog 51 [.pointer (some ⟨b, 0, none⟩)].toArray w (fun e w' => ∃ v0, e = .returned v0 ∧ ∃ I' H', (Le I I' ∧ ∃ (v' : Value) (L' : List PE) (e : Nat), v0 = .int .i64 (e : Int) ∧ H' = row b 135 (rdC s kd dp v') :: tvec 120 5 partC v' L' :: F ∧ RRes (readP n (Wn n) kd s) I' L' e) ∧ St w I' H' w') := by
 refine enter Tryz.func51 rfl Tryz.ntmps51 rfl (hw0.self) (trun rfl (tr (l_run 3 rfl (lq rfl (q_ld rfl rfl (by rfl)) ?_)))); refine lrun rfl (t_cutE (ι := Value × List PE × Nat) (fun zz => readP n (Wn n) kd s = readL n (Wn n) kd s.length (s.drop zz.2.2) (zz.2.1.map PE.pt) ∧ WordsR I zz.2.1 ∧ zz.2.1.length ≤ zz.2.2 ∧ sumT zz.2.1 ≤ zz.2.2 ∧ zz.2.2 ≤ s.length) (fun zz => [(3, str (s.drop zz.2.2))]) [(0, _), (2, _)] (fun zz => I) (fun zz => (row b 135 (rdC s kd dp zz.1) :: tvec 120 5 partC zz.1 zz.2.1 :: F)) (sub_rfl rfl) ?_ ?_)
 ·refine tq (s_run 3 rfl (sq rfl (q_ld rfl rfl (by rfl)) ?_)); refine s_run 2 rfl ?_
  refine s_and2 6 5 16 23 22 _ _ rfl rfl rfl rfl rfl rfl (fun h23 => by
    simp at h23
    refine s_runG 1 rfl (sg rfl (q_eql_str rfl rfl rfl) (s_runG 1 rfl ?_))
    refine s_or2 2 8 19 22 21 _ _ rfl rfl rfl rfl rfl rfl (fun h22 => by
      simp at h22
      refine s_runG 1 rfl (sg rfl (qc rfl rfl rfl ((fun w _ => hasPrefix_pure s [126, 47] w))) ?_); exact s_val rfl
     ) (wanted_g rfl rfl rfl rfl) rfl rfl rfl ?_
    exact s_val rfl
   ) (wanted_n rfl) rfl rfl rfl ?_
  refine sdn (t_cond rfl (fun hc0 => ?_) (fun hc0 => ?_))
  ·have htl := tilde_val hc0
   refine t_seq ?_
   have hnil0 : ([] : List PE).length = 0 := rfl
   refine t_len nilV (fun hlv => ?_); refine t_draw [6, 7, 9, 12] [9, 12] [row b 135 (rdC s kd dp nilV)] mo (by kernel_rfl) (fun _ _ _ _ _ h => h) (r_run [0, 1, 2] (by kernel_rfl) rfl rfl rfl (rq0 3 (by kernel_rfl) rfl (Le.refl _) rfl (fun _ hI => q_ld rfl rfl (by rfl)) ?_)); refine rqf 4 (by kernel_rfl) rfl rfl (fun _ => q_build (pl := [(_, _), (_, _), (_, _), (_, _), (_, _)]) (cs := (partC (⟨5, [126], [], nilV, [], false⟩ : PE)).toArray) rfl un120 ti120 ⟨rfl, ⟨_, _, ti3⟩, rfl, ⟨_, _, ti9⟩, rfl, ⟨_, _, ti9⟩, rfl, ⟨_, _, ti73⟩, rfl, ⟨_, _, ti4⟩, trivial⟩ rfl rfl) ?_; refine rqf 5 (by kernel_rfl) rfl rfl (fun _ => (by exact q_len rfl un133 rfl (len_of hlv))) ?_; refine re 6 (by kernel_rfl) rfl (Le.refl _) rfl (e_buildSlice1 rfl un133 ti120 rfl rfl rfl (by rfl) rfl) ?_; rintro _ _ _ ⟨b30, rfl, rfl, rfl⟩; refine ⟨Le.refl _, .inr SubC.sub, ?_⟩; refine re 7 (by kernel_rfl) rfl (Le.refl _) rfl (e_appendT (f := partC) (c := pe0) rfl un133 ti120 rfl rfl rfl rfl rfl rfl rfl (by exact partC_ones (I := I) (plR_nil I)) (by simp only [maxLen]; omega) (by omega)) ?_; rintro v31 _ _ ⟨rfl, rfl⟩; refine ⟨Le.refl _, .inr SubC.sub, ?_⟩
   have hlen31 : (([] : List PE) ++ [pe0]).length = ([] : List PE).length + 1 := by simp
   refine r_len v31 (fun hsh31 hone => ?_); refine rqf 8 (by kernel_rfl) rfl rfl (fun _ => (by exact q_indexAddrN rfl un133 ti120 rfl rfl (hsh31) (by omega))) ?_; refine r_run [10, 11] (by kernel_rfl) rfl rfl rfl (r_two 9 12 (by kernel_rfl) (by kernel_rfl) ?_ ?_)
   ·refine x_e0 9 rfl rfl (Le.refl _) rfl rfl (e_storeSA ((⟨5, [126], [], nilV, [], false⟩ : PE)) rfl ti120 rfl rfl (partC_ones (I := I) (plR_nil I)) (fun _ => rfl) (by simp) (by decide)) ?_; rintro _ _ _ ⟨rfl, rfl⟩; refine ⟨Le.refl _, .inl rfl, ?_⟩; refine r_heap (H' := tvec 120 5 partC v31 (([] : List PE) ++ [(⟨5, [126], [], nilV, [], false⟩ : PE)]) :: _) ?_ (fun _ h => by rw [set_snoc] at h; exact h); refine r_e0 12 (by kernel_rfl) (by kernel_rfl) rfl (Le.refl _) rfl rfl (e_storeS rfl ti133 rfl rfl (by assumption) rfl (by rfl)) ?_; rintro _ _ _ ⟨rfl, rfl⟩; refine ⟨Le.refl _, .inl rfl, ?_⟩; refine r_heap (H' := row b 135 (rdC s kd dp v31) :: _) ?_ (fun _ h => h); refine r_end (by kernel_rfl) (n_then ?_)
    have hs1 := tilde_len htl
    refine t_region (l_run 1 rfl (lq rfl (q_slice_str_from rfl un9 rfl rfl (by omega)) ?_)); refine l_runA rfl (n_cut ((v31, [] ++ [(⟨5, [126], [], nilV, [], false⟩ : PE)], 1)) ?_ (sub_rfl rfl) (sub_rfl rfl) (fun _ h => by dsimp only; exact subC_st h))
    ·dsimp only; exact ⟨by rw [readP, if_pos htl]; rfl, wordsR_one (plR_nil I), Nat.le_refl _, Nat.le_refl _, hs1⟩
   ·refine x_e0 12 rfl rfl (Le.refl _) rfl rfl (e_storeS rfl ti133 rfl rfl (by assumption) rfl (by rfl)) ?_; rintro _ _ _ ⟨rfl, rfl⟩; refine ⟨Le.refl _, .inl rfl, ?_⟩; refine r_heap (H' := row b 135 (rdC s kd dp v31) :: _) ?_ (fun _ h => h); refine r_e0 9 (by kernel_rfl) (by kernel_rfl) rfl (Le.refl _) rfl rfl (e_storeSA ((⟨5, [126], [], nilV, [], false⟩ : PE)) rfl ti120 rfl rfl (partC_ones (I := I) (plR_nil I)) (fun _ => rfl) (by simp) (by decide)) ?_; rintro _ _ _ ⟨rfl, rfl⟩; refine ⟨Le.refl _, .inl rfl, ?_⟩; refine r_heap (H' := tvec 120 5 partC v31 (([] : List PE) ++ [(⟨5, [126], [], nilV, [], false⟩ : PE)]) :: _) ?_ (fun _ h => by rw [set_snoc] at h; exact h); refine r_end (by kernel_rfl) (n_then ?_)
    have hs1 := tilde_len htl
    refine t_region (l_run 1 rfl (lq rfl (q_slice_str_from rfl un9 rfl rfl (by omega)) ?_)); refine l_runA rfl (n_cut ((v31, [] ++ [(⟨5, [126], [], nilV, [], false⟩ : PE)], 1)) ?_ (sub_rfl rfl) (sub_rfl rfl) (fun _ h => by dsimp only; exact subC_st h))
    ·dsimp only; exact ⟨by rw [readP, if_pos htl]; rfl, wordsR_one (plR_nil I), Nat.le_refl _, Nat.le_refl _, hs1⟩
  ·have htl := tilde_val hc0
   refine t_skip (n_cut ((nilV, [], 0)) ?_ (sub_rfl rfl) (sub_rfl rfl) (fun _ h => by dsimp only; exact subC_st h))
   ·dsimp only; exact ⟨by rw [readP, if_neg (by rw [htl]; simp)]; rfl, wordsR_nil I, Nat.le_refl _, Nat.le_refl _, Nat.zero_le _⟩
 rintro ⟨v, L, i⟩ ⟨hx0, hWL, hLn, hLs, hi0⟩; dsimp only at *; refine t_seq (t_block (t_loopE (ι := Value × List PE × Nat × Nat × Look) (fun zz => zz.2.2.1 ≤ s.length ∧ Le I zz.2.2.2.2 ∧ WordsR zz.2.2.2.2 zz.2.1 ∧ zz.2.1.length ≤ zz.2.2.1 ∧ sumT zz.2.1 ≤ zz.2.2.1 ∧ readP n (Wn n) kd s = readL n (Wn n) kd zz.2.2.2.1 (s.drop zz.2.2.1) (zz.2.1.map PE.pt) ∧ s.length - zz.2.2.1 ≤ zz.2.2.2.1) (fun zz => s.length - zz.2.2.1) (fun zz => [(3, str (s.drop zz.2.2.1))]) [(0, _)] (fun zz => zz.2.2.2.2) (fun zz => (row b 135 (rdC s kd dp zz.1) :: tvec 120 5 partC zz.1 zz.2.1 :: F)) (v, L, i, s.length, I) ?_ (sub_rfl rfl) (sub_rfl rfl) (fun _ h => subC_st h) ?_))
 ·dsimp only; exact ⟨hi0, Le.refl _, hWL, hLn, hLs, hx0, by omega⟩
 rintro ⟨v, L, i, g, J⟩ ⟨hi0, hIJ, hWJ, hLn, hLs, hx, hg⟩; dsimp only at *; refine t_seq (tr (l_run 1 rfl (lq rfl (q_neq_str rfl rfl rfl) (ln (t_cond rfl (fun hc1 => ?_) (fun hc1 => ?_))))))
 ·have hne : s.drop i ≠ [] := of_decide_eq_true hc1
  have hdl : (s.drop i).length = s.length - i := List.length_drop
  have hdp := List.length_pos_iff.2 hne
  have hi : i < s.length := by omega
  have hst := read_step hx hne (by omega)
  refine tskip (t_block (trun rfl (t_cutE (ι := Value × List PE × Nat × Nat × Look) (fun zz => Le J zz.2.2.2.2 ∧ WordsR zz.2.2.2.2 zz.2.1 ∧ (zz.2.2.2.1 = 0 → stepP n (Wn n) kd (s.drop i) (L.map PE.pt) = .ok (zz.2.1.map PE.pt) zz.2.2.1) ∧ (zz.2.2.2.1 ≠ 0 → stepP n (Wn n) kd (s.drop i) (L.map PE.pt) = .bad zz.2.2.2.1)) (fun zz => [(4, .int .i64 (zz.2.2.1 : Int)), (5, .int .i64 (zz.2.2.2.1 : Int))]) [(3, _), (0, _), (38, _)] (fun zz => zz.2.2.2.2) (fun zz => (row b 135 (rdC s kd dp zz.1) :: tvec 120 5 partC zz.1 zz.2.1 :: F)) (sub_rfl rfl) ?_ ?_)))
  ·refine tr (l_run 1 rfl (lq rfl ((by exact q_index_strN rfl un9 rfl rfl (by omega))) ?_)); refine lrun rfl (t_block (tr (l_run 1 rfl (lq rfl (q_eql_u8c rfl rfl rfl rfl) (lrun rfl (t_cond rfl (fun hc2 => ?_) (fun hc2 => ?_)))))))
   ·simp only [decide_eq_true_eq, decide_eq_false_iff_not] at hc2
    have h2 : nth (s.drop i) 0 0 = 92 := hc2
    refine t_region (l_run 2 rfl (lec rfl rfl rfl rfl (fun w hw => bsl_calls b s kd dp v L (s.drop i) _ _ _ w (by omega) (by omega) hne (by omega) hWJ (picks_st2 (row b 135 (rdC s kd dp v)) (tvec 120 5 partC v L) hw)) ?_)); rintro _ _ _ ⟨rfl, v2, L2, k2, rfl, rfl, hW2, hbs⟩; refine l_runA rfl (n_block (n_cut ((v2, L2, k2, 0, J)) ?_ (sub_rfl rfl) (sub_rfl rfl) (fun _ h => by dsimp only; exact subC_st h)))
    ·dsimp only; exact ⟨Le.refl _, hW2, fun _ => by rw [stepP, if_pos h2]; exact hbs, fun h => absurd rfl h⟩
   ·simp only [decide_eq_true_eq, decide_eq_false_iff_not] at hc2
    have h2 : ¬ nth (s.drop i) 0 0 = 92 := hc2
    refine tq (s_run 1 rfl (sq rfl (q_eql_u8c rfl rfl rfl rfl) (s_run 1 rfl ?_)))
    refine s_or2 2 2 56 59 58 _ _ rfl rfl rfl rfl rfl rfl (fun h59 => by
      simp at h59
      refine s_runG 1 rfl (sg rfl (q_eql_u8c rfl rfl rfl rfl) ?_); exact s_val rfl
     ) (wanted_n rfl) rfl rfl rfl ?_
    refine s_run 1 rfl ?_
    refine s_and2 5 6 60 66 65 _ _ rfl rfl rfl rfl rfl rfl (fun h66 => by
      simp at h66
      refine s_runG 3 rfl (sg rfl (q_ld rfl rfl (by rfl)) ?_); refine s_runG 1 rfl ?_; exact s_val rfl
     ) (wanted_n rfl) rfl rfl rfl ?_
    refine s_run 1 rfl (sdn (t_cond rfl (fun hc3 => ?_) (fun hc3 => ?_)))
    ·have hq := quot_cond hc3
     refine t_region (l_run 2 rfl (lec rfl rfl rfl rfl (fun w hw => quotes_calls n hW b s kd dp v L i _ _ _ w (by omega) (by omega) hn9 hd hi hs (by rw [nth_drop_h] at hq; exact hq.1) hkd (hG.mono hIJ) hWJ (picks_st2 (row b 135 (rdC s kd dp v)) (tvec 120 5 partC v L) hw)) ?_)); rintro _ J2 _ ⟨hJ2, v2, L2, k2, e2, rfl, rfl, hW2, hres⟩; refine l_runA rfl (n_block (n_cut ((v2, L2, k2, e2, J2)) ?_ (sub_rfl rfl) (sub_rfl rfl) (fun _ h => by dsimp only; exact subC_st h)))
     ·dsimp only; exact ⟨hJ2, hW2, fun h => by rw [stepP, if_neg h2, if_pos hq]; exact hres.t h, fun h => by rw [stepP, if_neg h2, if_pos hq]; exact hres.f h⟩
    ·have hq := quot_ncond hc3
     refine tr (l_run 1 rfl (lq rfl (q_eql_u8c rfl rfl rfl rfl) (lrun rfl (t_cond rfl (fun hc4 => ?_) (fun hc4 => ?_)))))
     ·simp only [decide_eq_true_eq, decide_eq_false_iff_not] at hc4
      have h4 : nth (s.drop i) 0 0 = 36 := hc4
      refine t_region (l_run 2 rfl (lec rfl rfl rfl rfl (fun w hw => dollarw_calls n hW b s kd dp v L i _ _ _ w (by omega) (by omega) hn9 hd hi hs (by rw [nth_drop_h] at h4; exact h4) hkd (hG.mono hIJ) hWJ (picks_st2 (row b 135 (rdC s kd dp v)) (tvec 120 5 partC v L) hw)) ?_)); rintro _ J2 _ ⟨hJ2, v2, L2, k2, e2, rfl, rfl, hW2, hres⟩; refine l_runA rfl (n_block (n_cut ((v2, L2, k2, e2, J2)) ?_ (sub_rfl rfl) (sub_rfl rfl) (fun _ h => by dsimp only; exact subC_st h)))
      ·dsimp only; exact ⟨hJ2, hW2, fun h => by rw [stepP, if_neg h2, if_neg hq, if_pos h4]; exact hres.t h, fun h => by rw [stepP, if_neg h2, if_neg hq, if_pos h4]; exact hres.f h⟩
     ·simp only [decide_eq_true_eq, decide_eq_false_iff_not] at hc4
      have h4 : ¬ nth (s.drop i) 0 0 = 36 := hc4
      refine tr (l_run 1 rfl (lq rfl (q_eql_u8c rfl rfl rfl rfl) (lrun rfl (t_cond rfl (fun hc5 => ?_) (fun hc5 => ?_)))))
      ·simp only [decide_eq_true_eq, decide_eq_false_iff_not] at hc5
       have h5 : nth (s.drop i) 0 0 = 96 := hc5
       refine t_region (l_runA rfl (n_block (n_cut ((v, L, 1, 55, J)) ?_ (sub_rfl rfl) (sub_rfl rfl) (fun _ h => by dsimp only; exact subC_st h))))
       ·dsimp only; exact ⟨Le.refl _, hWJ, fun h => absurd h (by decide), fun _ => by rw [stepP, if_neg h2, if_neg hq, if_neg h4, if_pos h5]⟩
      ·simp only [decide_eq_true_eq, decide_eq_false_iff_not] at hc5
       have h5 : ¬ nth (s.drop i) 0 0 = 96 := hc5
       refine t_draw [5] [] [] mo (by kernel_rfl) (fun _ _ _ _ _ h => h) (r_run [0, 1] (by kernel_rfl) rfl rfl rfl (rq1 2 (by kernel_rfl) rfl rfl (q_slice_str_to rfl un9 rfl rfl (by omega)) ?_)); refine r_run [3] (by kernel_rfl) rfl rfl rfl (rq1 4 (by kernel_rfl) rfl rfl (qc rfl rfl rfl ((fun w hw => quoted_pure b s kd dp v w (rowed_of hw)))) (re 5 (by kernel_rfl) rfl (Le.refl _) rfl (ec rfl rfl rfl (fun w hw => lit_calls b s kd dp v L ((s.drop i).take 1) (decide (kd ≠ 0)) _ _ _ w (by omega) (by rw [List.length_take]; omega) (fun x hx => by have := sumT_mem hx; omega) (picks_st2 (row b 135 (rdC s kd dp v)) (tvec 120 5 partC v L) hw))) ?_)); rintro _ _ _ ⟨rfl, rfl, v2, rfl⟩; refine ⟨Le.refl _, .inr SubC.sub, ?_⟩; refine r_end (by kernel_rfl) (n_block (n_cut ((v2, litE L ((s.drop i).take 1) (decide (kd ≠ 0)), 1, 0, J)) ?_ (sub_rfl rfl) (sub_rfl rfl) (fun _ h => by dsimp only; exact subC_st h)))
       ·dsimp only; exact ⟨Le.refl _, litE_words hWJ, fun _ => by rw [stepP, if_neg h2, if_neg hq, if_neg h4, if_neg h5, litE_pt], fun h => absurd rfl h⟩
  rintro ⟨v2, L2, k2, e2, J2⟩ ⟨hJJ, hW2, hs0, hs1⟩; dsimp only at *; refine t_seq (trun rfl (t_cond rfl (fun hc6 => ?_) (fun hc6 => ?_)))
  ·simp at hc6
   have he2 : e2 ≠ 0 := by omega
   have hbad := hst.1 _ (hs1 he2)
   refine trun rfl (tret (n_ret1 rfl rfl (fun w' hw => ?_))); exact ⟨_, rfl, J2, _, ⟨hIJ.trans hJJ, v2, L2, e2, rfl, rfl, (by rw [hbad]; exact ⟨rfl, he2⟩)⟩, subC_st hw⟩
  ·simp at hc6
   have he2 : e2 = 0 := by omega
   have hgo := hst.2 _ _ (hs0 he2)
   have hsb := step_bound (wn_bound n) hne (hs0 he2)
   refine tskip (t_region (l_run 2 rfl (lq rfl (q_slice_str_from rfl un9 rfl rfl (by omega)) ?_))); refine l_runA rfl (n_block (n_roundE ((v2, L2, i + k2, g - 1, J2)) ?_ ?_ (sub_cons' rfl (by show str ((s.drop i).drop k2) = _; rw [List.drop_drop]) (sub_nil)) (sub_rfl rfl) (fun _ h => by dsimp only; exact subC_st h)))
   ·dsimp only; refine ⟨by omega, hIJ.trans hJJ, hW2, ?_, ?_, by rw [hgo, List.drop_drop], by omega⟩
    ·rw [List.length_map, List.length_map] at hsb; omega
    ·rw [sumP_pt, sumP_pt] at hsb; omega
   ·dsimp only
    show s.length - (i + k2) < s.length - i
    omega
 ·have hem : s.drop i = [] := Classical.not_not.1 (of_decide_eq_false hc1)
  rw [hem, read_end] at hx; refine t_exit (n_exit_then (n_exit_then (n_exit_block (n_then (trun rfl (t_ret (n_ret1 rfl rfl (fun w' hw => ?_)))))))); exact ⟨_, rfl, J, _, ⟨hIJ, v, L, 0, rfl, rfl, (by rw [hx]; exact ⟨rfl, rfl, hWJ⟩)⟩, subC_st hw⟩
theorem within_step (n : Nat) (hW : ∀ m, n = m + 1 → WithinOk m) (s : List UInt8) (kind d : Nat) (I : Look) (F : List HA) (w0 w : World) (hn9 : 24 - d = n) (hd : d ≤ 24) (hk : kind ≤ 2) (hs : s.length ≤ 100000000) (hG : EnvI I) (hw0 : St w0 I F w) : Calls Tryz.prog 37 [str s, .int .i64 (kind : Int), .int .i64 (d : Int)].toArray w (fun e w' => ∃ v, e = .returned v ∧ ∃ I' H', (Le I I' ∧ F = H' ∧ ∃ vl, ∃ e1 : Nat, v = .tuple #[vl, .int .i64 (e1 : Int)] ∧ WRes (wP n kind s) I' vl e1) ∧ St w I' H' w') := by
 refine enter Tryz.func37 rfl Tryz.ntmps37 rfl (hw0.self) (trun rfl (tr (l_run 3 rfl (lq rfl (q_build (pl := [(_, _), (_, _), (_, _), (_, _)]) (cs := (rdC s kind d nilV).toArray) rfl un135 ti135 ⟨rfl, ⟨_, _, ti9⟩, rfl, ⟨_, _, ti3⟩, rfl, ⟨_, _, ti3⟩, rfl, ⟨_, _, ti133⟩, trivial⟩ rfl rfl) (le rfl (e_box rfl rfl rfl) ?_))))); rintro _ _ _ ⟨b14, rfl, rfl, rfl⟩; refine lrun rfl (t_seq (tr (l_run 1 rfl (lec rfl rfl rfl rfl (fun w hw => read_calls n hW b14 s kind d _ F _ w hn9 hd hs hk hG (subC_st (show St _ _ (tvec 120 5 partC nilV [] :: _) _ from st_nilT 120 5 partC (picks_st1 (row b14 135 (rdC s kind d nilV)) hw)))) ?_)))); rintro _ J16 _ ⟨hJ16, v', L', e16, rfl, rfl, hres⟩; refine lrun rfl (trun rfl (t_cond rfl (fun hc0 => ?_) (fun hc0 => ?_)))
 ·simp at hc0
  have he : e16 ≠ 0 := by omega
  have hr := hres.f he
  refine trun rfl (tret (n_ret2 rfl rfl rfl (fun w' hw => ?_))); exact ⟨_, rfl, J16, _, ⟨hJ16, rfl, nilV, e16, rfl, (by rw [wP_read, hr]; exact ⟨rfl, he, rfl⟩)⟩, subC_st hw⟩
 ·simp at hc0
  have he : e16 = 0 := by omega
  obtain ⟨hr, hWL⟩ := hres.t he; refine tskip (t_seq (t_freezeT (f := partC) (l := L') v' (fun _ => rfl) (fun Jf hJf hvf => ?_))); refine t_region (l_run 3 rfl (lq rfl (q_ld rfl rfl (by rfl)) ?_)); refine lrun rfl (t_ret (n_ret2 rfl rfl rfl (fun w' hw => ?_))); exact ⟨_, rfl, Jf, _, ⟨hJ16.trans hJf, rfl, v', 0, rfl, (by rw [wP_read, hr]; exact ⟨rfl, .mk v' L' hvf (hWL.mono hJf)⟩)⟩, subC_st hw⟩
theorem within_ok : ∀ n, WithinOk n
 | 0 => fun s kind d I F w0 w h1 h2 h3 h4 h5 h6 => within_step 0 (fun m h => by cases h) s kind d I F w0 w h1 h2 h3 h4 h5 h6
 | n + 1 => fun s kind d I F w0 w h1 h2 h3 h4 h5 h6 => within_step (n + 1) (fun m h => (show n = m by omega) ▸ within_ok n) s kind d I F w0 w h1 h2 h3 h4 h5 h6
end Go.Tri
