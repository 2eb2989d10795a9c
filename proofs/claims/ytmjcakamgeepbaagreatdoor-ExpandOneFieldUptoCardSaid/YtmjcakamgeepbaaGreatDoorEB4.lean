/-
 Quotes.
-/
import Derived.Test.YtmjcakamgeepbaaGreatDoorEB3
namespace Go.Tri
open Go.Proofs Go.RowKit
set_option maxRecDepth 10000
theorem quotes_calls (n : Nat) (hW : ∀ m, n = m + 1 → WithinOk m) (b : Nat) (s : List UInt8) (kd dp : Nat) (v : Value) (L : List PE) (i : Nat) (I : Look) (F : List HA) (w0 w : World) (hn : L.length ≤ 200000000) (hsum : sumT L ≤ 200000000) (hn9 : 24 - dp = n) (hd : dp ≤ 24) (hi : i < s.length) (hs : s.length ≤ 100000000) (hc : nth s i 0 = 39 ∨ nth s i 0 = 34) (hkd : kd ≤ 2) (hG : EnvI I) (hWL : WordsR I L) (hw0 : St w0 I (row b 135 (rdC s kd dp v) :: tvec 120 5 partC v L :: F) w) : Calls Tryz.prog 65 [.pointer (some ⟨b, 0, none⟩), str (s.drop i)].toArray w (fun e w' => ∃ v0, e = .returned v0 ∧ ∃ I' H', (StepPost b s kd dp (quotP n (Wn n) (s.drop i) (L.map PE.pt)) v0 I I' F H') ∧ St w I' H' w') := by
 have hdl : (s.drop i).length = s.length - i := List.length_drop
 refine enter Tryz.func65 rfl Tryz.ntmps65 rfl (hw0.self) (trun rfl (tr (l_run 3 rfl (lq rfl (q_ld rfl rfl (by rfl)) ?_)))); refine lq rfl (q_len_str rfl un9 rfl) (l_run 1 rfl (lq rfl (q_len_str rfl un9 rfl) (lq rfl (q_sub64 rfl rfl rfl (by omega)) ?_))); rw [show (s.length : Int) - ((s.drop i).length : Int) = (i : Int) by omega]; refine lrun rfl (t_seq (t_qdraw mo (by kernel_rfl) (fun _ _ _ _ _ h => h) (s_run 3 rfl (sq rfl (q_ld rfl rfl (by rfl)) ?_)))); refine s_run 4 rfl (sq rfl (q_ld rfl rfl (by rfl)) ?_); refine sq rfl (qc rfl rfl rfl ((fun w _ => end_pure s i dp false w (by omega)))) ?_; rw [endT_quot hi hd hc, hn9]; obtain ⟨r, hr⟩ : ∃ r, r = quotR n (s.drop i) := ⟨_, rfl⟩; rw [← hr]; refine s_run 7 rfl (sdn (t_seq (trun rfl (t_cond rfl (fun hc0 => ?_) (fun hc0 => ?_)))))
 ·simp at hc0
  have hx : scX r ≠ 0 := by omega
  obtain ⟨a, hrb⟩ := sr_bad hx; refine trun rfl (tret (n_ret2 rfl rfl rfl (fun w' hw => ?_))); exact ⟨_, rfl, I, _, StepPost.fail (v' := v) (L' := L) (Le.refl _) (quotP_bad (hr.symm.trans hrb)) hx rfl hWL, subC_st hw⟩
 ·simp at hc0
  have hx : scX r = 0 := by omega
  obtain ⟨k, hrk⟩ := sr_ok (hr ▸ quotR_faulty n _) hx
  have hk := quotR_ok (drop_ne hi) (hr.symm.trans hrk)
  rw [show scE i r = i + k by rw [hrk]; rfl]; refine tskip (tr (l_run 3 rfl (lq rfl (q_ld rfl rfl (by rfl)) ?_))); refine l_run 1 rfl (lq rfl (q_add64 rfl rfl rfl (by omega)) ?_); refine l_run 1 rfl (lq rfl (q_sub64 rfl rfl rfl (by omega)) ?_); refine lq rfl (q_slice_str rfl un9 rfl rfl rfl (by omega)) ?_; obtain ⟨inner, hin⟩ : ∃ x, x = ((s.drop i).take (k - 1)).drop 1 := ⟨_, rfl⟩; rw [show (s.drop ((i : Int) + 1).toNat).take (((((i + k : Nat) : Int)) - 1).toNat - ((i : Int) + 1).toNat) = inner by rw [hin, inner_one, show ((i : Int) + 1).toNat = i + 1 by omega, show (((((i + k : Nat) : Int)) - 1).toNat - (i + 1)) = k - 2 by omega]]
  have hil : inner.length = k - 2 := by rw [hin, List.length_drop, List.length_take]; omega
  refine lrun rfl (t_seq (tq (s_run 1 rfl (sq rfl ((by exact q_index_str rfl un9 rfl rfl (by omega))) ?_)))); refine sq rfl (q_eql_u8c rfl rfl rfl rfl) (s_run 1 rfl ?_)
  refine s_or2 2 3 49 52 51 _ _ rfl rfl rfl rfl rfl rfl (fun h52 => by
    simp at h52
    refine s_runG 1 rfl (sg rfl (q_eql_str rfl rfl rfl) ?_); exact s_val rfl
   ) (wanted_n rfl) rfl rfl rfl ?_
  refine sdn (t_cond rfl (fun hc1 => ?_) (fun hc1 => ?_))
  ·have h1 : nth (s.drop i) 0 0 = 39 ∨ inner = [] := by simpa using hc1
   have hq := quotP_lit (W := Wn n) (acc := (L.map PE.pt)) (hr.symm.trans hrk) hin h1
   refine tr (l_run 2 rfl (lec rfl rfl rfl rfl (fun w hw => lit_calls b s kd dp v L inner true _ _ _ w (by omega) (by omega) (fun x hx => by have := sumT_mem hx; omega) (picks_st2 (row b 135 (rdC s kd dp v)) (tvec 120 5 partC v L) hw)) ?_)); rintro _ _ _ ⟨rfl, rfl, v55, rfl⟩; refine lnr1 (l_run 2 rfl (lq rfl (q_sub64 rfl rfl rfl (by omega)) ?_)); refine lrun rfl (tret (n_ret2 rfl rfl rfl (fun w' hw => ?_))); rw [show (((i + k : Nat) : Int)) - (i : Int) = (k : Int) by omega]; exact ⟨_, rfl, I, _, StepPost.good (v' := v55) (L' := litE L inner true) (Le.refl _) hq rfl (litE_words hWL) (litE_pt _ _ _), subC_st hw⟩
  ·have h1 : ¬ (nth (s.drop i) 0 0 = 39 ∨ inner = []) := by
    have h := hc1
    rw [Bool.or_eq_false_iff, decide_eq_false_iff_not, decide_eq_false_iff_not] at h
    exact fun h2 => h2.elim h.1 h.2
   have hq := quotP_in (W := Wn n) (acc := (L.map PE.pt)) (hr.symm.trans hrk) hin h1
   have h34 : quotR n (s.drop i) = (lv n).1 (s.drop i) := by
    unfold quotR; rw [if_pos]; rw [nth_drop_h] at h1 ⊢; exact hc.resolve_left (fun h => h1 (.inl h))
   obtain ⟨m, rfl⟩ := lv_some (h34.symm.trans (hr.symm.trans hrk)); refine tskip (tr (l_run 4 rfl (lq rfl (q_ld rfl rfl (by rfl)) ?_))); refine lq rfl (q_add64 rfl rfl rfl (by omega)) ?_; refine lec rfl rfl rfl rfl (fun w hw => hW m rfl inner 1 (dp + 1) _ _ _ w (by omega) (by omega) (by omega) (by omega) hG hw) ?_; rintro _ J66 _ ⟨hJ66, rfl, vl, e1, rfl, hres⟩; refine lrun rfl (t_seq (trun rfl (t_cond rfl (fun hc2 => ?_) (fun hc2 => ?_))))
   ·simp at hc2
    have he1 : e1 ≠ 0 := by omega
    have hwr := hres.f he1
    have hqq := hq.1 _ hwr.1
    refine trun rfl (tret (n_ret2 rfl rfl rfl (fun w' hw => ?_))); exact ⟨_, rfl, J66, _, StepPost.fail (v' := v) (L' := L) hJ66 hqq he1 rfl (hWL.mono hJ66), subC_st hw⟩
   ·simp at hc2
    have he1 : e1 = 0 := by omega
    obtain ⟨l2, hwr, hpl⟩ := hres.t he1
    have hqq := hq.2 _ hwr
    obtain ⟨M, hM, hsl, hWM⟩ := hpl.un; refine tskip (t_cutE (ι := Value × List PE) (fun zz => zz.2 = (if M = [] then litE L [] true else L)) (fun zz => []) [(0, _), (1, _), (4, _), (5, _), (6, _), (7, _), (9, _), (35, _), (10, _), (52, _), (11, _), (70, _)] (fun zz => J66) (fun zz => (row b 135 (rdC s kd dp zz.1) :: tvec 120 5 partC zz.1 zz.2 :: F)) (sub_rfl rfl) ?_ ?_)
    ·refine tr (l_run 1 rfl ?_); refine lq rfl ((by exact q_len rfl un73 rfl (Sl.lenOf hsl (List.length_map _)))) ?_; refine lrun rfl (t_cond rfl (fun hc3 => ?_) (fun hc3 => ?_))
     ·have hM0 : M = [] := List.eq_nil_of_length_eq_zero (by have := of_decide_eq_true hc3; omega)
      refine t_region (l_run 1 rfl (lec rfl rfl rfl rfl (fun w hw => lit_calls b s kd dp v L [] true _ _ _ w (by omega) (by simp) (fun x hx => by have := sumT_mem hx; omega) (picks_st2 (row b 135 (rdC s kd dp v)) (tvec 120 5 partC v L) hw)) ?_)); rintro _ _ _ ⟨rfl, rfl, v76, rfl⟩; refine l_nil (n_cut ((v76, litE L [] true)) ?_ (sub_nil) (sub_rfl rfl) (fun _ h => by dsimp only; exact subC_st h))
      ·dsimp only; rw [if_pos hM0]
     ·have hM0 : ¬ M = [] := fun h => of_decide_eq_false hc3 (by rw [h]; rfl)
      refine t_skip (n_cut ((v, L)) ?_ (sub_nil) (sub_rfl rfl) (fun _ h => by dsimp only; exact subC_st h))
      ·dsimp only; rw [if_neg hM0]
    rintro ⟨v', L1⟩ hL1; dsimp only at *
    have hb1 := litE_len L [] true
    have hb2 := litE_sum L [] true
    have hwb := wn_bound (m + 1) 1 inner _ hwr
    rw [hM, List.length_map, sumP_pt] at hwb
    have hL1n : L1.length ≤ L.length + 1 ∧ sumT L1 = sumT L := by
     rw [hL1]; split
     ·exact ⟨hb1, by rw [hb2]; simp⟩
     ·exact ⟨by omega, rfl⟩
    have hL1w : WordsR J66 L1 := by
     rw [hL1]; split
     ·exact litE_words (hWL.mono hJ66)
     ·exact hWL.mono hJ66
    refine tr (l_run 2 rfl (lec rfl rfl rfl rfl (fun w hw => all_calls b s kd dp v' L1 M vl _ _ _ w (by omega) (by omega) hsl hWM (picks_st2 (row b 135 (rdC s kd dp v')) (tvec 120 5 partC v' L1) hw)) ?_)); rintro _ _ _ ⟨rfl, rfl, v79, rfl⟩; refine lnr1 (l_run 2 rfl (lq rfl (q_sub64 rfl rfl rfl (by omega)) ?_)); refine lrun rfl (t_ret (n_ret2 rfl rfl rfl (fun w' hw => ?_))); rw [show (((i + k : Nat) : Int)) - (i : Int) = (k : Int) by omega]
    have hfin : (allE L1 M).map PE.pt = allP (if l2 = [] then litP (L.map PE.pt) [] true else L.map PE.pt) l2 := by
     rw [allE_pt, hM, hL1]; congr 1; by_cases h : M = []
     ·rw [if_pos h, if_pos (by rw [h]; rfl), litE_pt]
     ·rw [if_neg h, if_neg (fun h2 => h (List.map_eq_nil_iff.1 h2))]
    exact ⟨_, rfl, J66, _, StepPost.good (v' := v79) (L' := allE L1 M) hJ66 hqq rfl (allE_words M L1 hL1w hWM) hfin, subC_st hw⟩
end Go.Tri
