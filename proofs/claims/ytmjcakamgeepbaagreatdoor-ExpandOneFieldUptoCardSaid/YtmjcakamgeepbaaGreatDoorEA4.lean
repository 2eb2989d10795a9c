/-
 Where what begins ends.
-/
import Derived.Test.YtmjcakamgeepbaaGreatDoorEA3
import Derived.Test.YtmjcakamgeepbaaGreatDoorPLex12
namespace Go.Tri
open Go.Proofs Go.RowKit
set_option maxRecDepth 10000
theorem quote_on {c : UInt8} {b : Bool} (h : (decide (c = 39) && !b) = true) : c = 39 ∧ (!b) = true := by
 rw [Bool.and_eq_true, decide_eq_true_eq] at h; exact h
theorem quote_off {c : UInt8} {b : Bool} (h : (decide (c = 39) && !b) = false) : ¬ (c = 39 ∧ (!b) = true) := fun ⟨h1, h2⟩ => by
 rw [h1, h2] at h; cases h
theorem end_pure (s : List UInt8) (i d : Int) (q : Bool) (w : World) (hs : s.length ≤ 2305843009213693952) : Pure Tryz.prog 85 [str s, .int .i64 i, .int .i64 d, .bool q] w (.tuple #[.int .i64 ((endT s i d q).1 : Int), .int .i64 ((endT s i d q).2.1 : Int), .int .i64 ((endT s i d q).2.2 : Int)]) := by
 refine enter Tryz.func85 rfl Tryz.ntmps85 rfl (St.start w (look w) (Le.refl _)) (trun rfl (t_seq (tq (s_run 3 rfl ?_))))
 refine s_or2 4 2 15 20 19 _ _ rfl rfl rfl rfl rfl rfl (fun h20 => by
   simp at h20
   refine s_runG 2 rfl (sg rfl (q_len_str rfl un9 rfl) (s_runG 1 rfl ?_)); exact s_val rfl
  ) (wanted_n rfl) rfl rfl rfl ?_
 refine s_run 1 rfl ?_
 refine s_or2 2 8 21 24 23 _ _ rfl rfl rfl rfl rfl rfl (fun h24 => by
   simp at h24
   refine s_runG 2 rfl ?_; exact s_val rfl
  ) (wanted_n rfl) rfl rfl rfl ?_
 refine s_run 1 rfl ?_
 refine s_or2 2 12 25 28 27 _ _ rfl rfl rfl rfl rfl rfl (fun h28 => by
   simp at h28
   refine s_runG 2 rfl ?_; exact s_val rfl
  ) (wanted_n rfl) rfl rfl rfl ?_
 refine sdn (t_cond rfl (fun hc0 => ?_) (fun hc0 => ?_))
 ·have hout := endT_out (q := q) hc0
  refine trun rfl (tret (n_ret3 rfl rfl rfl rfl (fun w' hw => ?_))); refine ⟨?_, hw.below⟩
  rw [hout]; rfl
 ·obtain ⟨i, d, rfl, rfl, hi, hd, hin⟩ := endT_in hc0
  replace hin := hin q
  refine tskip (tr (l_run 2 rfl (lq rfl (q_build (pl := [(_, _), (_, _), (_, _)]) (cs := (scC s i 0 0).toArray) rfl un205 ti205 ⟨rfl, ⟨_, _, ti9⟩, rfl, ⟨_, _, ti3⟩, rfl, ⟨_, _, ti203⟩, trivial⟩ rfl rfl) (le rfl (e_box rfl rfl rfl) ?_)))); rintro _ _ _ ⟨b32, rfl, rfl, rfl⟩; refine lrun rfl (trun rfl (t_seq (t_block (tq (s_run 1 rfl (sq rfl (qc rfl rfl rfl ((fun w hw => starts_pure b32 s [39] i 0 0 w (by omega) (rowed_of hw)))) ?_)))))); refine s_run 1 rfl ?_
  refine s_and2 2 2 36 39 38 _ _ rfl rfl rfl rfl rfl rfl (fun h39 => by
    refine s_runG 2 rfl ?_; exact s_val rfl
   ) (wanted_n rfl) rfl rfl rfl ?_
  refine s_run 1 rfl (sdn (t_cond rfl (fun hc1 => ?_) (fun hc1 => ?_)))
  ·have h1 := quote_on (by rw [← stB1_at hi]; exact hc1)
   have hR := endR_sgl (d := d) h1.1 (show q = false by simpa using h1.2)
   refine t_region (l_run 1 rfl (lec rfl rfl rfl rfl (fun w hw => single_calls b32 s i _ _ _ w hs hi (picks_st1 (row b32 205 (scC s i 0 0)) hw)) ?_)); rintro _ _ _ ⟨rfl, ok41, i41, a41, e41, rfl, hr41, hi41, rfl⟩; refine l_runA rfl (n_block (n_then (t_seq (trun rfl (t_cond rfl (fun hc2 => ?_) (fun hc2 => ?_))))))
   ·obtain ⟨a, g1, g2⟩ := hr41.f (by simpa using hc2); refine t_seq (t_qdraw mo (by kernel_rfl) (fun _ _ _ _ _ h => h) (s_run 4 rfl (sq rfl (q_ld rfl rfl (by rfl)) ?_))); refine s_run 4 rfl (sq rfl (q_ld rfl rfl (by rfl)) ?_); refine s_run 3 rfl (sdn (tret (n_ret3 rfl rfl rfl rfl (fun w' hw => ?_)))); refine ⟨?_, hw.below⟩
    rw [hin, hR, g1, g2]; rfl
   ·obtain ⟨k, g1, g2, g3, g4⟩ := hr41.t (by simpa using hc2); refine tskip (tr (l_run 3 rfl (lq rfl (q_ld rfl rfl (by rfl)) ?_))); refine lrun rfl (t_ret (n_ret3 rfl rfl rfl rfl (fun w' hw => ?_))); refine ⟨?_, hw.below⟩
    rw [hin, hR, g1, g2]; rfl
  ·have h1 : ¬ (nth s i 0 = 39 ∧ q = false) := fun h => quote_off (c := nth s i 0) (b := q) (by rw [← stB1_at hi]; exact hc1) ⟨h.1, by rw [h.2]; rfl⟩
   refine tr (l_run 1 rfl (lq rfl (qc rfl rfl rfl ((fun w hw => starts_pure b32 s [34] i 0 0 w (by omega) (rowed_of hw)))) ?_)); refine lrun rfl (t_cond rfl (fun hc3 => ?_) (fun hc3 => ?_))
   ·have h3 : nth s i 0 = 34 := of_decide_eq_true (by rw [← stB1_at hi]; exact hc3)
    have hR := endR_dbl (d := d) (q := q) h3
    refine t_region (l_run 2 rfl (lq rfl (q_add64 rfl rfl rfl (by omega)) ?_)); refine lec rfl rfl rfl rfl (fun w hw => (both_ok (24 - d)).1 b32 s i (d + 1) _ _ _ w (by omega) (by omega) hs hi (picks_st1 (row b32 205 (scC s i 0 0)) hw)) ?_; rintro _ _ _ ⟨rfl, ok48, i48, a48, e48, rfl, hr48, hi48, rfl⟩; refine l_runA rfl (n_block (n_then (t_seq (trun rfl (t_cond rfl (fun hc4 => ?_) (fun hc4 => ?_))))))
    ·obtain ⟨a, g1, g2⟩ := hr48.f (by simpa using hc4); refine t_seq (t_qdraw mo (by kernel_rfl) (fun _ _ _ _ _ h => h) (s_run 4 rfl (sq rfl (q_ld rfl rfl (by rfl)) ?_))); refine s_run 4 rfl (sq rfl (q_ld rfl rfl (by rfl)) ?_); refine s_run 3 rfl (sdn (tret (n_ret3 rfl rfl rfl rfl (fun w' hw => ?_)))); refine ⟨?_, hw.below⟩
     rw [hin, hR, g1, g2]; rfl
    ·obtain ⟨k, g1, g2, g3, g4⟩ := hr48.t (by simpa using hc4); refine tskip (tr (l_run 3 rfl (lq rfl (q_ld rfl rfl (by rfl)) ?_))); refine lrun rfl (t_ret (n_ret3 rfl rfl rfl rfl (fun w' hw => ?_))); refine ⟨?_, hw.below⟩
     rw [hin, hR, g1, g2]; rfl
   ·have h3 : nth s i 0 ≠ 34 := of_decide_eq_false (by rw [← stB1_at hi]; exact hc3)
    refine tq (s_run 1 rfl (sq rfl (qc rfl rfl rfl ((fun w hw => starts_pure b32 s [36, 40] i 0 0 w (by omega) (rowed_of hw)))) ?_)); refine s_run 1 rfl ?_
    refine s_or2 2 2 52 55 54 _ _ rfl rfl rfl rfl rfl rfl (fun h55 => by
      refine s_runG 1 rfl (sg rfl (qc rfl rfl rfl ((fun w hw => starts_pure b32 s [36, 123] i 0 0 w (by omega) (rowed_of hw)))) ?_); exact s_val rfl
     ) (wanted_n rfl) rfl rfl rfl ?_
    refine s_run 1 rfl (sdn (t_cond rfl (fun hc5 => ?_) (fun hc5 => ?_)))
    ·have hb : begB s i = true := hc5
     have hR := endR_dlr (d := d) h3 h1 hb
     refine t_region (l_run 2 rfl (lq rfl (q_add64 rfl rfl rfl (by omega)) ?_)); refine l_run 1 rfl (lec rfl rfl rfl rfl (fun w hw => (both_ok (24 - d)).2 b32 s i (d + 1) q _ _ _ w (by omega) (by omega) hs (begB_at hb).1 (picks_st1 (row b32 205 (scC s i 0 0)) hw)) ?_); rintro _ _ _ ⟨rfl, ok60, i60, a60, e60, rfl, hr60, hi60, rfl⟩; refine l_runA rfl (n_block (n_then (t_seq (trun rfl (t_cond rfl (fun hc6 => ?_) (fun hc6 => ?_))))))
     ·obtain ⟨a, g1, g2⟩ := hr60.f (by simpa using hc6); refine t_seq (t_qdraw mo (by kernel_rfl) (fun _ _ _ _ _ h => h) (s_run 4 rfl (sq rfl (q_ld rfl rfl (by rfl)) ?_))); refine s_run 4 rfl (sq rfl (q_ld rfl rfl (by rfl)) ?_); refine s_run 3 rfl (sdn (tret (n_ret3 rfl rfl rfl rfl (fun w' hw => ?_)))); refine ⟨?_, hw.below⟩
      rw [hin, hR, g1, g2]; rfl
     ·obtain ⟨k, g1, g2, g3, g4⟩ := hr60.t (by simpa using hc6); refine tskip (tr (l_run 3 rfl (lq rfl (q_ld rfl rfl (by rfl)) ?_))); refine lrun rfl (t_ret (n_ret3 rfl rfl rfl rfl (fun w' hw => ?_))); refine ⟨?_, hw.below⟩
      rw [hin, hR, g1, g2]; rfl
    ·have hb : begB s i = false := hc5
     have hR := endR_none (d := d) h3 h1 hb
     refine trun rfl (tret (n_ret3 rfl rfl rfl rfl (fun w' hw => ?_))); refine ⟨?_, hw.below⟩
     rw [hin, hR]; rfl
end Go.Tri
