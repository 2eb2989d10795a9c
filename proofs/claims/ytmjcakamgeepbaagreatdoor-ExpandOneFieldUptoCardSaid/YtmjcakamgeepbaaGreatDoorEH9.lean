/-
 A number at the beginning of a text.
-/
import Derived.Test.YtmjcakamgeepbaaGreatDoorEC4
import Derived.Test.YtmjcakamgeepbaaGreatDoorPExW
import Derived.Test.YtmjcakamgeepbaaGreatDoorTriZ
namespace Go.Tri
open Go.Proofs Go.RowKit
set_option maxRecDepth 10000
theorem literal_pure (s : List UInt8) (w : World) (hs : s.length ≤ 1000000000) (hne : s ≠ []) : Pure Tryz.prog 149 [str s] w (.tuple #[.int .i64 (litV s).1, .int .i64 ((litV s).2 : Int), .bool (numLit s).isSome]) := by
 have hs0 := List.length_pos_iff.2 hne
 have hul := litU_le hne
 refine enter Tryz.func149 rfl Tryz.ntmps149 rfl (St.start w (look w) (Le.refl _)) (trun rfl (trun rfl (trun rfl (t_cutE (ι := Unit) (fun _ => True) (fun _ => [(5, .int .i64 ((litU s).1 : Int)), (6, str (digS (litU s).1)), (7, .int .i64 ((litU s).2 : Int))]) [(0, _), (2, _), (3, _), (4, _)] (fun _ => look w) (fun _ => []) (sub_rfl rfl) ?_ ?_))))
 ·refine tr (l_run 1 rfl (lq rfl ((by exact q_index_strN rfl un9 rfl rfl (by omega))) ?_)); refine lq rfl (q_eql_u8c rfl rfl rfl rfl) (ln (t_cond rfl (fun hc0 => ?_) (fun hc0 => ?_)))
  ·simp only [decide_eq_true_eq, decide_eq_false_iff_not] at hc0
   have h48 : nth s 0 0 = 48 := hc0
   refine trun rfl (tq (s_run 1 rfl (sq rfl (q_len_str rfl un9 rfl) (s_run 2 rfl ?_))))
   refine s_and2 4 3 18 23 22 _ _ rfl rfl rfl rfl rfl rfl (fun h23 => by
     simp at h23
     refine s_runG 1 rfl (sg rfl ((by exact q_index_str rfl un9 rfl rfl (by omega))) ?_); refine sg rfl (q_or_u8 (d := 32) rfl rfl rfl) (sg rfl (q_eql_u8c rfl rfl rfl rfl) ?_); exact s_val rfl
    ) (wanted_n rfl) rfl rfl rfl ?_
   refine sdn (t_cond rfl (fun hc1 => ?_) (fun hc1 => ?_))
   ·have hU := litU_hex h48 hc1
    refine t_region (l_runA rfl (n_cut (()) ?_ (sub_cons' rfl (by rw [hU]; rfl) (sub_cons' rfl (by rw [hU]; rfl) (sub_cons' rfl (by rw [hU]; rfl) (sub_nil)))) (sub_rfl rfl) (fun _ h => by dsimp only; exact subC_st h)))
    ·trivial
   ·have hU := litU_oct h48 hc1
    refine t_skip (n_cut (()) ?_ (sub_cons' rfl (by rw [hU]; rfl) (sub_cons' rfl (by rw [hU]; rfl) (sub_cons' rfl (by rw [hU]; rfl) (sub_nil)))) (sub_rfl rfl) (fun _ h => by dsimp only; exact subC_st h))
    ·trivial
  ·simp only [decide_eq_true_eq, decide_eq_false_iff_not] at hc0
   have hU := litU_dec (s := s) hc0
   refine t_skip (n_cut (()) ?_ (sub_cons' rfl (by rw [hU]; rfl) (sub_cons' rfl (by rw [hU]; rfl) (sub_cons' rfl (by rw [hU]; rfl) (sub_nil)))) (sub_rfl rfl) (fun _ h => by dsimp only; exact subC_st h))
   ·trivial
 rintro _ _; refine trun rfl (t_cutE (ι := Int × Nat) (fun zz => litG ((litU s).1) s s.length 0 (litU s).2 = (zz.1, zz.2) ∧ zz.2 ≤ s.length) (fun zz => [(8, .int .i64 zz.1), (9, .int .i64 (zz.2 : Int))]) [(5, _), (6, _), (7, _), (0, _), (2, _), (3, _), (4, _)] (fun zz => look w) (fun zz => []) (sub_rfl rfl) ?_ ?_)
 ·refine t_block (t_loopE (ι := Int × Nat × Nat) (fun zz => zz.2.1 ≤ s.length ∧ litG ((litU s).1) s s.length 0 (litU s).2 = litG ((litU s).1) s zz.2.2 zz.1 zz.2.1 ∧ s.length - zz.2.1 ≤ zz.2.2) (fun zz => s.length - zz.2.1) (fun zz => [(8, .int .i64 zz.1), (9, .int .i64 (zz.2.1 : Int))]) [(5, _), (6, _), (7, _), (0, _), (2, _), (3, _), (4, _)] (fun zz => look w) (fun zz => []) (0, (litU s).2, s.length) ?_ (sub_rfl rfl) (sub_rfl rfl) (fun _ h => subC_st h) ?_)
  ·dsimp only; exact ⟨hul, rfl, by omega⟩
  rintro ⟨n, i, g⟩ ⟨hi, hx, hg⟩; dsimp only at *; refine t_seq (tr (l_run 2 rfl (lq rfl (q_len_str rfl un9 rfl) (lrun rfl (t_cond rfl (fun hc2 => ?_) (fun hc2 => ?_))))))
  ·simp at hc2
   have hl : i < s.length := by omega
   refine tskip (t_block (tr (l_run 2 rfl (lq rfl ((by exact q_index_strN rfl un9 rfl rfl (by omega))) ?_)))); refine lrun rfl (t_cutE (ι := Unit) (fun _ => True) (fun _ => [(10, u8 (lowX ((litU s).1) (nth s i 0)))]) [(8, _), (9, _), (5, _), (6, _), (7, _), (0, _), (2, _), (3, _), (4, _), (28, _)] (fun _ => look w) (fun _ => []) (sub_rfl rfl) ?_ ?_)
   ·refine tq (s_run 3 rfl ?_)
    refine s_and2 2 2 34 37 36 _ _ rfl rfl rfl rfl rfl rfl (fun h37 => by
      simp at h37
      refine s_runG 2 rfl ?_; exact s_val rfl
     ) (wanted_n rfl) rfl rfl rfl ?_
    refine s_run 1 rfl ?_
    refine s_and2 2 6 38 41 40 _ _ rfl rfl rfl rfl rfl rfl (fun h41 => by
      simp at h41
      refine s_runG 2 rfl ?_; exact s_val rfl
     ) (wanted_n rfl) rfl rfl rfl ?_
    refine sdn (t_cond rfl (fun hc3 => ?_) (fun hc3 => ?_))
    ·have hlx := lowX_on hc3
     refine t_region (l_run 1 rfl (lq rfl (q_or_u8 (d := 32) rfl rfl rfl) (l_runA rfl (n_cut (()) ?_ (sub_cons' rfl (by rw [hlx]) (sub_nil)) (sub_rfl rfl) (fun _ h => by dsimp only; exact subC_st h)))))
     ·trivial
    ·have hlx := lowX_off hc3
     refine t_skip (n_cut (()) ?_ (sub_cons' rfl (by rw [hlx]) (sub_nil)) (sub_rfl rfl) (fun _ h => by dsimp only; exact subC_st h))
     ·trivial
   rintro _ _; refine tr (l_run 2 rfl (lq rfl (qc rfl rfl rfl ((fun w _ => indexByte_pure (digS ((litU s).1)) (lowX ((litU s).1) (nth s i 0)) w))) (lrun rfl (t_seq (trun rfl (t_cond rfl (fun hc4 => ?_) (fun hc4 => ?_)))))))
   ·have hd : digV ((litU s).1) (nth s i 0) < 0 := of_decide_eq_true hc4
    refine t_exit (n_exit_then (n_exit_other rfl (n_exit_then (n_exit_block (n_cut ((n, i)) ?_ (sub_rfl rfl) (sub_rfl rfl) (fun _ h => by dsimp only; exact subC_st h))))))
    ·dsimp only; exact ⟨by rw [hx, litG_stop hd], by omega⟩
   ·have hd : ¬ digV ((litU s).1) (nth s i 0) < 0 := of_decide_eq_false hc4
    refine tskip (tr (l_run 2 rfl (lq rfl (q_mul rfl rfl rfl) (l_run 1 rfl (lq rfl (q_add rfl rfl rfl) (lrun rfl (t_region (l_run 1 rfl (lq rfl (q_add64 rfl rfl rfl (by omega)) ?_))))))))); refine l_runA rfl (n_block (n_roundE ((w64 (w64 (n * (((litU s).1) : Int)) + digV ((litU s).1) (nth s i 0)), i + 1, g - 1)) ?_ ?_ (sub_rfl rfl) (sub_rfl rfl) (fun _ h => by dsimp only; exact subC_st h)))
    ·dsimp only; exact ⟨by omega, by rw [hx, litG_step hg hl hd], by omega⟩
    ·dsimp only
     show s.length - (i + 1) < s.length - i
     omega
  ·simp at hc2
   have hl : ¬ i < s.length := by omega
   refine t_exit (n_exit_then (n_exit_then (n_exit_block (n_cut ((n, i)) ?_ (sub_rfl rfl) (sub_rfl rfl) (fun _ h => by dsimp only; exact subC_st h)))))
   ·dsimp only; exact ⟨by rw [hx, litG_end hl], hi⟩
 rintro ⟨n, i⟩ ⟨hr, hi⟩; dsimp only at *; refine t_seq (tq (s_run 4 rfl ?_))
 refine s_or2 13 3 59 73 72 _ _ rfl rfl rfl rfl rfl rfl (fun h73 => by
   simp at h73
   refine s_runG 2 rfl (sg rfl (q_len_str rfl un9 rfl) (s_runG 2 rfl ?_))
   refine s_and2 7 8 64 72 71 _ _ rfl rfl rfl rfl rfl rfl (fun h72 => by
     simp at h72
     refine s_runG 3 rfl (sg rfl (q_add64 rfl rfl rfl (by omega)) ?_); refine sg rfl (q_slice_str rfl un9 rfl rfl rfl (by omega)) ?_; refine sg rfl (q_cat rfl rfl rfl (by (simp only [List.length_append, List.length_cons, List.length_nil, List.length_take, List.length_drop]; omega))) ?_; refine sg rfl (qc rfl rfl rfl ((fun w _ => name_pure _ w (by simp only [List.length_append, List.length_take, List.length_drop, List.length_cons, List.length_nil]; omega)))) ?_; exact s_val rfl
    ) (wanted_g rfl rfl rfl rfl) rfl rfl rfl ?_
   exact s_val rfl
  ) (wanted_n rfl) rfl rfl rfl ?_
 refine sdn (t_cond rfl (fun hc5 => ?_) (fun hc5 => ?_))
 ·have hres := numLit_none (by omega) hr hc5
  refine trun rfl (tret (n_ret3 rfl rfl rfl rfl (fun w' hw => ?_))); refine ⟨?_, hw.below⟩
  rw [litV, hres]; rfl
 ·have hres := numLit_some (by omega) hr hc5
  refine tskip (trun rfl (t_ret (n_ret3 rfl rfl rfl rfl (fun w' hw => ?_)))); refine ⟨?_, hw.below⟩
  rw [litV, hres]; rfl
end Go.Tri

/-
 The lexeme at the beginning of a text.
-/
namespace Go.Tri
open Go.Proofs Go.RowKit
set_option maxRecDepth 10000
theorem ascii_of {l : List UInt8} (h : l.all (fun b => decide (b.toNat < 128)) = true) : ∀ (j : Nat) b, l[j]? = some b → b.toNat < 128 := fun j b hb => by
 have := List.all_eq_true.1 h b (List.mem_of_getElem? hb)
 simpa using this
theorem trimB_pure (s cs : List UInt8) (w : World) (hs : s.length ≤ 1000000000) (hc : cs.length ≤ 1000) (ha : cs.all (fun b => decide (b.toNat < 128)) = true) : Pure Tryz.prog 116 [str s, str cs] w (str (Lib.trimS s cs)) := by
 have h1 := size_str s
 have h2 := size_str cs
 exact (Any.strings_Trim_laid Tryz.lays160 (by kernel_rfl) ⟨s.toArray⟩ ⟨cs.toArray⟩ w (by omega) (by omega) (ascii_of (l := cs) ha)).mono fun e w' ⟨h3, h4⟩ => ⟨h3, h4⟩
theorem trimSuffix_pure (s p : List UInt8) (w : World) (hs : s.length ≤ 1000000000) : Pure Tryz.prog 150 [str s, str p] w (str (Lib.trimSuffix s p)) := by
 have h1 := size_str s
 refine (Tryz.strings_TrimSuffix ⟨s.toArray⟩ ⟨p.toArray⟩ w (by omega)).mono fun e w' ⟨h1, h2⟩ => ?_
 subst h2; exact ⟨h1, Below.refl _ _⟩
theorem contains1_pure (s : List UInt8) (c : UInt8) (w : World) : Pure Tryz.prog 109 [str s, str [c]] w (.bool (Lib.contains s [c])) := by
 refine (Tryz.strings_Contains_one ⟨s.toArray⟩ c w).mono fun e w' ⟨h1, h2⟩ => ?_
 subst h2; refine ⟨?_, Below.refl _ _⟩; rw [h1]; unfold Lib.contains; rw [index_one]
theorem first_pure (s : List UInt8) (w : World) (hs : s.length ≤ 1000000000) (hG : EnvI (look w)) : Pure Tryz.prog 144 [str s] w (.tuple #[.agg (lxC (firstP s).1).toArray, .int .i64 ((firstP s).2 : Int)]) := by
 refine enter Tryz.func144 rfl Tryz.ntmps144 rfl (St.start w (look w) (Le.refl _)) (tr (le rfl (e_alloc rfl ti217 rfl) ?_)); rintro _ _ _ ⟨b2, rfl, rfl, rfl⟩; refine l_heap (H' := row b2 217 (lxC lx0) :: _) ?_ (fun _ h => h); refine lrun rfl (t_seq (t_block (tr (l_run 1 rfl (lq rfl (q_eql_str rfl rfl rfl) (lrun rfl (t_cond rfl (fun hc0 => ?_) (fun hc0 => ?_))))))))
 ·simp at hc0
  have hF : firstP s = (lx0, 0) := by unfold firstP; rw [if_pos hc0]
  refine tr (lq rfl (q_build (pl := [(_, _), (_, _), (_, _)]) (cs := (lxC lx0).toArray) rfl un217 ti217 ⟨rfl, ⟨_, _, ti9⟩, rfl, ⟨_, _, ti2⟩, rfl, ⟨_, _, ti3⟩, trivial⟩ rfl rfl) (l_e0 rfl rfl ((by exact e_store_all rfl ti217 rfl rfl rfl (by exact lxC_ones _) rfl)) ?_)); rintro _ _ _ ⟨rfl, rfl⟩; refine lrun rfl (t_ret (n_ret_block (n_ret_then (n_retGG (.inl rfl) rfl (by exact rg_row rfl un217 ti217 rfl rfl (rg_tmp rfl (rg_nil))) (fun w' hw => ?_))))); refine ⟨?_, hw.below⟩
  rw [hF]; rfl
 ·simp at hc0
  have hne : s ≠ [] := hc0
  have hs0 := List.length_pos_iff.2 hne
  refine tq (s_run 1 rfl (sq rfl ((by exact q_index_strN rfl un9 rfl rfl (by omega))) ?_)); refine s_run 2 rfl ?_
  refine s_and2 3 3 17 21 20 _ _ rfl rfl rfl rfl rfl rfl (fun h21 => by
    simp at h21
    refine s_runG 1 rfl (sg rfl ((by exact q_index_strN rfl un9 rfl rfl (by omega))) ?_); refine s_runG 1 rfl ?_; exact s_val rfl
   ) (wanted_n rfl) rfl rfl rfl ?_
  refine s_run 1 rfl (sdn (t_cond rfl (fun hc1 => ?_) (fun hc1 => ?_)))
  ·have hF := first_dig hne hc1
   refine tr (l_run 1 rfl (lq rfl (qc rfl rfl rfl ((fun w _ => literal_pure s w (by omega) hne))) ?_)); refine lrun rfl (t_seq (trun rfl (t_cond rfl (fun hc2 => ?_) (fun hc2 => ?_))))
   ·simp at hc2
    rw [show numLit s = none from hc2] at hF; refine tr (lq rfl (q_build (pl := [(_, _), (_, _), (_, _)]) (cs := (lxC oddL).toArray) rfl un217 ti217 ⟨rfl, ⟨_, _, ti9⟩, rfl, ⟨_, _, ti2⟩, rfl, ⟨_, _, ti3⟩, trivial⟩ rfl rfl) (l_e0 rfl rfl ((by exact e_store_all rfl ti217 rfl rfl rfl (by exact lxC_ones _) rfl)) ?_)); rintro _ _ _ ⟨rfl, rfl⟩; refine lrun rfl (t_ret (n_ret_then (n_ret_block (n_ret_then (n_retGG (.inl rfl) rfl (by exact rg_row rfl un217 ti217 rfl rfl (rg_tmp rfl (rg_nil))) (fun w' hw => ?_)))))); refine ⟨?_, hw.below⟩
    rw [hF]; rfl
   ·simp at hc2
    obtain ⟨r, hr⟩ : ∃ r, numLit s = some r := Option.isSome_iff_exists.1 (by simpa using hc2)
    have hrl := numLit_le hne hr
    have hv : litV s = r := by rw [litV, hr]; rfl
    have hvl : (litV s).2 ≤ s.length := by rw [hv]; exact hrl.2
    rw [hr] at hF; rw [← hv] at hF; refine tskip (tr (l_run 2 rfl (lq rfl (q_slice_str_to rfl un9 rfl rfl (by omega)) ?_))); refine l_run 1 rfl (lq rfl (q_build (pl := [(_, _), (_, _), (_, _)]) (cs := (lxC ⟨s.take (litV s).2, (litV s).1, 1⟩).toArray) rfl un217 ti217 ⟨rfl, ⟨_, _, ti9⟩, rfl, ⟨_, _, ti2⟩, rfl, ⟨_, _, ti3⟩, trivial⟩ rfl rfl) (l_run 1 rfl (l_e0 rfl rfl ((by exact e_store_all rfl ti217 rfl rfl rfl (by exact lxC_ones _) rfl)) ?_))); rintro _ _ _ ⟨rfl, rfl⟩; refine lrun rfl (t_ret (n_ret_block (n_ret_then (n_retGG (.inl rfl) rfl (by exact rg_row rfl un217 ti217 rfl rfl (rg_tmp rfl (rg_nil))) (fun w' hw => ?_))))); refine ⟨?_, hw.below⟩
    rw [hF]; rfl
  ·have hF := first_not hne hc1
   refine tr (l_run 1 rfl (lq rfl (q_slice_str_to rfl un9 rfl rfl (by omega)) ?_)); refine lq rfl (qc rfl rfl rfl ((fun w _ => name_pure _ w (by rw [List.length_take]; omega)))) ?_; refine lrun rfl (t_cond rfl (fun hc3 => ?_) (fun hc3 => ?_))
   ·rw [if_pos (show nameB (s.take 1) = true from hc3)] at hF; refine trun rfl (t_cutE (ι := Nat) (fun zz => zz = (nameN s.length 1 s) ∧ zz ≤ s.length) (fun zz => [(7, .int .i64 (zz : Int))]) [(0, _), (2, _), (3, _), (9, _), (13, _), (37, _)] (fun zz => look w) (fun zz => (row b2 217 (lxC lx0) :: [])) (sub_rfl rfl) ?_ ?_)
    ·refine t_block (t_loopE (ι := Nat × Nat) (fun zz => zz.1 ≤ s.length ∧ (nameN s.length 1 s) = nameN zz.2 zz.1 s ∧ s.length - zz.1 ≤ zz.2) (fun zz => s.length - zz.1) (fun zz => [(7, .int .i64 (zz.1 : Int))]) [(0, _), (2, _), (3, _), (9, _), (13, _), (37, _)] (fun zz => look w) (fun zz => (row b2 217 (lxC lx0) :: [])) (1, s.length) ?_ (sub_rfl rfl) (sub_rfl rfl) (fun _ h => subC_st h) ?_)
     ·dsimp only; exact ⟨by omega, rfl, by omega⟩
     rintro ⟨n, g⟩ ⟨hn, hx, hg⟩; dsimp only at *; refine t_seq (tq (s_run 2 rfl (sq rfl (q_len_str rfl un9 rfl) (s_run 2 rfl ?_))))
     refine s_and2 5 4 45 51 50 _ _ rfl rfl rfl rfl rfl rfl (fun h51 => by
       simp at h51
       refine s_runG 2 rfl (sg rfl (q_add64 rfl rfl rfl (by omega)) ?_); refine sg rfl (q_slice_str_to rfl un9 rfl rfl (by omega)) ?_; refine sg rfl (qc rfl rfl rfl ((fun w _ => name_pure _ w (by rw [List.length_take]; omega)))) ?_; exact s_val rfl
      ) (wanted_n rfl) rfl rfl rfl ?_
     refine sdn (t_cond rfl (fun hc4 => ?_) (fun hc4 => ?_))
     ·have h3 : n < s.length ∧ nameB (s.take (n + 1)) = true := by
       have h := hc4
       rw [Bool.and_eq_true, decide_eq_true_eq] at h; exact ⟨by omega, h.2⟩
      refine tskip (t_block (t_region (l_run 1 rfl (lq rfl (q_add64 rfl rfl rfl (by omega)) ?_)))); refine l_runA rfl (n_block (n_roundE ((n + 1, g - 1)) ?_ ?_ (sub_rfl rfl) (sub_rfl rfl) (fun _ h => by dsimp only; exact subC_st h)))
      ·dsimp only; exact ⟨by omega, hx.trans (nameN_step hg h3.1 h3.2), by omega⟩
      ·dsimp only
       show s.length - (n + 1) < s.length - n
       omega
     ·have h3 : ¬ (n < s.length ∧ nameB (s.take (n + 1)) = true) := fun ⟨h1, h2⟩ => by
       have h : (decide ((n : Int) < (s.length : Int)) && nameB (s.take (n + 1))) = false := hc4
       rw [h2, decide_eq_true (by omega)] at h
       cases h
      refine t_exit (n_exit_then (n_exit_then (n_exit_block (n_cut (n) ?_ (sub_rfl rfl) (sub_rfl rfl) (fun _ h => by dsimp only; exact subC_st h)))))
      ·exact ⟨by rw [hx, nameN_end h3], hn⟩
    rintro n ⟨hn, hnl⟩; dsimp only at *; refine tr (l_run 2 rfl (lq rfl (q_slice_str_to rfl un9 rfl rfl (by omega)) ?_)); refine lq rfl (q_build (pl := [(_, _), (_, _), (_, _)]) (cs := (lxC ⟨s.take n, 0, 2⟩).toArray) rfl un217 ti217 ⟨rfl, ⟨_, _, ti9⟩, rfl, ⟨_, _, ti2⟩, rfl, ⟨_, _, ti3⟩, trivial⟩ rfl rfl) (l_run 1 rfl (l_e0 rfl rfl ((by exact e_store_all rfl ti217 rfl rfl rfl (by exact lxC_ones _) rfl)) ?_)); rintro _ _ _ ⟨rfl, rfl⟩; refine lrun rfl (t_ret (n_ret_block (n_ret_then (n_retGG (.inl rfl) rfl (by exact rg_row rfl un217 ti217 rfl rfl (rg_tmp rfl (rg_nil))) (fun w' hw => ?_))))); refine ⟨?_, hw.below⟩
    rw [hF, ← hn]; rfl
   ·rw [if_neg (show ¬ nameB (s.take 1) = true from by rw [show nameB (s.take 1) = false from hc3]; simp)] at hF; refine t_skip (n_block (n_then (t_cutE (ι := Unit) (fun _ => sgnN s (min 3 s.length) = 0) (fun _ => []) [(0, _), (2, _), (9, _), (13, _), (37, _)] (fun _ => look w) (fun _ => (row b2 217 (lxC lx0) :: [])) (sub_rfl rfl) ?_ ?_)))
    ·refine tr (l_run 1 rfl (lq rfl (q_len_str rfl un9 rfl) (lq rfl (q_min rfl rfl rfl) (lrun rfl (t_block (t_loopE (ι := Nat) (fun zz => zz ≤ s.length ∧ sgnN s (min 3 s.length) = sgnN s zz) (fun zz => zz) (fun zz => [(8, .int .i64 (zz : Int))]) [(0, _), (2, _), (9, _), (13, _), (37, _)] (fun zz => look w) (fun zz => (row b2 217 (lxC lx0) :: [])) (min 3 s.length) ?_ (sub_cons' rfl (congrArg (Value.int IntKind.i64) (by omega)) (sub_nil)) (sub_rfl rfl) (fun _ h => subC_st h) ?_))))))
     ·exact ⟨by omega, rfl⟩
     rintro n ⟨hn, hx⟩; dsimp only at *; refine t_seq (trun rfl (t_cond rfl (fun hc5 => ?_) (fun hc5 => ?_)))
     ·simp at hc5
      have hn0 : 0 < n := by omega
      refine tskip (t_seq (t_block (tq (s_run 2 rfl (sq rfl (q_slice_str_to rfl un9 rfl rfl (by omega)) ?_))))); refine sq rfl (q_cat rfl rfl rfl (by (simp only [List.length_append, List.length_cons, List.length_nil, List.length_take, List.length_drop]; omega))) ?_; refine sq rfl (q_cat rfl rfl rfl (by (simp only [List.length_append, List.length_cons, List.length_nil, List.length_take, List.length_drop]; omega))) ?_; refine sq rfl (qc rfl rfl rfl ((fun w hw => contains_pure sgnS ([32] ++ s.take n ++ [32]) w (by decide) (hG.mono hw.le)))) ?_; refine s_run 1 rfl ?_
      refine s_and2 5 6 72 78 77 _ _ rfl rfl rfl rfl rfl rfl (fun h78 => by
        simp at h78
        refine s_runG 2 rfl (sg rfl (q_slice_str_to rfl un9 rfl rfl (by omega)) ?_); refine sg rfl (qc rfl rfl rfl ((fun w _ => contains1_pure (s.take n) 32 w))) (s_runG 1 rfl ?_); exact s_val rfl
       ) (wanted_n rfl) rfl rfl rfl ?_
      refine sdn (t_cond rfl (fun hc6 => ?_) (fun hc6 => ?_))
      ·have h6 : sgnB (s.take n) = true := hc6
       rw [hx, sgnN_hit hn0 h6, if_neg (by omega)] at hF; refine tr (l_run 2 rfl (lq rfl (q_slice_str_to rfl un9 rfl rfl (by omega)) ?_)); refine lq rfl (q_build (pl := [(_, _), (_, _), (_, _)]) (cs := (lxC ⟨s.take n, 0, 3⟩).toArray) rfl un217 ti217 ⟨rfl, ⟨_, _, ti9⟩, rfl, ⟨_, _, ti2⟩, rfl, ⟨_, _, ti3⟩, trivial⟩ rfl rfl) (l_run 1 rfl (l_e0 rfl rfl ((by exact e_store_all rfl ti217 rfl rfl rfl (by exact lxC_ones _) rfl)) ?_)); rintro _ _ _ ⟨rfl, rfl⟩; refine lrun rfl (t_ret (n_ret_block (n_ret_then (n_ret_then (n_ret_block (n_ret_then (n_retGG (.inl rfl) rfl (by exact rg_row rfl un217 ti217 rfl rfl (rg_tmp rfl (rg_nil))) (fun w' hw => ?_)))))))); refine ⟨?_, hw.below⟩
       rw [hF]; rfl
      ·have h6 : sgnB (s.take n) = false := hc6
       refine t_skip (n_block (n_then (t_region (l_run 1 rfl (lq rfl (q_sub64 rfl rfl rfl (by omega)) ?_))))); refine l_runA rfl (n_roundE (n - 1) ?_ ?_ (sub_cons' rfl (congrArg (Value.int IntKind.i64) (by omega)) (sub_nil)) (sub_rfl rfl) (fun _ h => by dsimp only; exact subC_st h))
       ·exact ⟨by omega, hx.trans (sgnN_step hn0 h6)⟩
       ·omega
     ·simp at hc5
      have hn0 : n = 0 := by omega
      refine t_exit (n_exit_then (n_exit_then (n_exit_block (n_cut (()) ?_ (sub_nil) (sub_rfl rfl) (fun _ h => by dsimp only; exact subC_st h)))))
      ·rw [hx, hn0]; rfl
    rintro _ hz; refine tr (lq rfl (q_build (pl := [(_, _), (_, _), (_, _)]) (cs := (lxC oddL).toArray) rfl un217 ti217 ⟨rfl, ⟨_, _, ti9⟩, rfl, ⟨_, _, ti2⟩, rfl, ⟨_, _, ti3⟩, trivial⟩ rfl rfl) (l_e0 rfl rfl ((by exact e_store_all rfl ti217 rfl rfl rfl (by exact lxC_ones _) rfl)) ?_)); rintro _ _ _ ⟨rfl, rfl⟩; refine lrun rfl (t_ret (n_retGG (.inl rfl) rfl (by exact rg_row rfl un217 ti217 rfl rfl (rg_tmp rfl (rg_nil))) (fun w' hw => ?_))); refine ⟨?_, hw.below⟩
    rw [hF, if_pos hz]; rfl
end Go.Tri

/-
 Lexemes one by one.
-/
namespace Go.Tri
open Go.Proofs Go.RowKit
set_option maxRecDepth 10000
theorem lex_last {L r : List Lx} {n : Nat} {b : Bool} (h1 : n < L.length) (h2 : L.drop (n + 1) = if b = true then [] else r) (hb : b = true) : L.length = n + 1 := by
 rw [if_pos hb] at h2
 have := congrArg List.length h2
 rw [List.length_drop] at this
 simp at this; omega
theorem lxVs_one {l : List Lx} : ∀ vs ∈ l.map lxV, vs.length = 1 := fun vs h => by
 obtain ⟨x, _, rfl⟩ := List.mem_map.1 h; rfl
theorem lexemes_iter (s : List UInt8) (b1 : Nat) (I0 : Look) (hs : s.length ≤ 900000000) (hG : EnvI I0) : Iterates Tryz.prog 143 [.pointer (some ⟨b1, 0, none⟩)] ((lexL s).map lxV) (fun I => CellI I b1 0 (str s) ∧ Le I0 I) := by
 intro γ Cd Cx G II lid hY w0 g00 F w hcd0 hpre hw0; obtain ⟨hb1, hle0⟩ := hpre
 have hJ := Le.refl (II g00)
 have htl0 := trimL_le s blS
 refine enter Tryz.func143 rfl Tryz.ntmps143 rfl (hw0.self) (tr (lq rfl ((by exact q_ldr rfl rfl (rd_imm (hb1.mono hJ)))) ?_)); refine lq rfl (qc rfl rfl rfl ((fun w _ => trimL_pure s blS w (by decide) (by decide)))) ?_; refine lrun rfl (t_block (t_loopE (ι := List UInt8 × Nat × Nat × γ) (fun zz => zz.2.2.1 ≤ (lexL s).length ∧ Cd zz.2.2.1 zz.2.2.2 ∧ Le (II g00) (II zz.2.2.2) ∧ (lexL s).drop zz.2.2.1 = lexG zz.2.1 zz.1 ∧ zz.1.length < zz.2.1 ∧ zz.1.length ≤ s.length) (fun zz => zz.1.length) (fun zz => [(3, str zz.1)]) [(0, _), (1, _)] (fun zz => (II zz.2.2.2)) (fun zz => (F ++ G zz.2.2.2)) (Lib.trimLeftS s blS, s.length + 1, 0, g00) ?_ (sub_rfl rfl) (sub_rfl rfl) (fun _ h => subC_st h) ?_))
 ·dsimp only; exact ⟨Nat.zero_le _, hcd0, Le.refl _, rfl, by omega, htl0⟩
 rintro ⟨q, f, nn, g⟩ ⟨hn, hcd, hJ, hdr, hf, hql⟩; dsimp only at *; obtain ⟨hn1, hx1, hx2⟩ := lex_next hdr hf; refine t_seq (t_block (tr (l_run 1 rfl (lq rfl (qc rfl rfl rfl ((fun w hw => first_pure q w (by omega) (hG.mono ((hle0.trans hJ).trans hw.le))))) ?_)))); refine l_run 3 rfl (le rfl (e_alloc rfl ti217 rfl) ?_); rintro _ _ _ ⟨b4, rfl, rfl, rfl⟩; refine l_heap (H' := row b4 217 (lxC lx0) :: _) ?_ (fun _ h => h); refine l_e0 rfl rfl ((by exact e_store_all rfl ti217 rfl rfl rfl (by exact lxC_ones _) rfl)) ?_; rintro _ _ _ ⟨rfl, rfl⟩; refine l_heap (H' := row b4 217 (lxC (firstP q).1) :: _) ?_ (fun _ h => h); refine lrun rfl (t_seq (tr (l_run 1 rfl (lq rfl (q_load_rowA rfl un217 ti217 rfl rfl rfl) (l_yield (i := nn) g (wanted_n rfl) rfl rfl rfl rfl rfl hY ((by rw [List.getElem?_map, hx1]; rfl)) hcd rfl (fun g hcd hle => ?_) (fun g hcx hle => ?_))))))
 ·have hJ := hJ.trans hle
  refine l_quietHead 6 (s_run 2 rfl ?_)
  refine s_or2 3 4 19 23 22 _ _ rfl rfl rfl rfl rfl rfl (fun h23 => by
    simp at h23
    refine s_runG 1 rfl (sg rfl ((by exact q_ld rfl rfl (by rfl))) ?_); refine s_runG 1 rfl ?_; exact s_val rfl
   ) (wanted_n rfl) rfl rfl rfl ?_
  refine s_list (l_quietHead 5 (s_run 1 rfl ?_))
  refine s_or2 3 9 24 28 27 _ _ rfl rfl rfl rfl rfl rfl (fun h28 => by
    simp at h28
    refine s_runG 1 rfl (sg rfl ((by exact q_ld rfl rfl (by rfl))) ?_); refine s_runG 1 rfl ?_; exact s_val rfl
   ) (wanted_n rfl) rfl rfl rfl ?_
  refine s_list (ln (t_cond rfl (fun hc0 => ?_) (fun hc0 => ?_)))
  ·have hstt := stop_of hc0 rfl
   refine tret (n_ret0 rfl (fun w' hw => ?_)); exact ⟨_, rfl, g, .inl (by rw [List.length_map, lex_last hn1 hx2 hstt]; exact hcd), hJ, hw0.rebase (subC_st hw)⟩
  ·have hstf := stop_of hc0 rfl
   refine tskip ?_
   have hadv := first_adv hstf
   refine t_region (l_run 2 rfl (lq rfl (q_slice_str_from rfl un9 rfl rfl (by omega)) ?_)); refine l_runA rfl (n_block (n_then ?_))
   have hadv := first_adv hstf
   have htl1 := trimL_le (q.drop (firstP q).2) blS
   rw [List.length_drop] at htl1; refine t_region (l_run 1 rfl (lq rfl (qc rfl rfl rfl ((fun w _ => trimL_pure (q.drop (firstP q).2) blS w (by decide) (by decide)))) ?_)); refine l_runA rfl (n_roundE ((Lib.trimLeftS (q.drop (firstP q).2) blS, f - 1, nn + 1, g)) ?_ ?_ (sub_rfl rfl) (sub_rfl rfl) (fun _ h => by dsimp only; exact subC_st h))
   ·dsimp only; refine ⟨hn1, hcd, hJ, ?_, by omega, by omega⟩; rw [hx2, if_neg (by rw [hstf]; simp)]
   ·dsimp only
    show (Lib.trimLeftS (q.drop (firstP q).2) blS).length < q.length
    omega
 ·have hJ := hJ.trans hle
  refine l_quietHead 6 (s_run 2 rfl ?_)
  refine s_or2 3 4 19 23 22 _ false rfl rfl rfl rfl rfl rfl (fun h23 => by
    exact absurd h23 (by decide)
   ) (wanted_n rfl) rfl rfl rfl ?_
  refine s_list (l_quietHead 5 (s_run 1 rfl ?_))
  refine s_or2 3 9 24 28 27 _ false rfl rfl rfl rfl rfl rfl (fun h28 => by
    exact absurd h28 (by decide)
   ) (wanted_n rfl) rfl rfl rfl ?_
  refine s_list (ln (t_cond rfl (fun hc1 => ?_) (fun hc1 => ?_)))
  ·refine tret (n_ret0 rfl (fun w' hw => ?_)); exact ⟨_, rfl, g, .inr ⟨nn + 1, (by rw [List.length_map]; omega), hcx⟩, hJ, hw0.rebase (subC_st hw)⟩
  ·exact absurd hc1 (by simp)
theorem lexemes_calls (s : List UInt8) (I : Look) (F : List HA) (w0 w : World) (hw0 : St w0 I F w) : Calls Tryz.prog 118 [str s].toArray w (fun e w' => ∃ v, e = .returned v ∧ ∃ I' H', (Le I I' ∧ F = H' ∧ ∃ b, v = .func (.func 143) #[] #[.pointer (some ⟨b, 0, none⟩)] ∧ CellI I' b 0 (str s)) ∧ St w I' H' w') := by
 refine enter Tryz.func118 rfl Tryz.ntmps118 rfl (hw0.self) (tr (le rfl (e_box rfl rfl (by rfl)) ?_)); rintro _ _ _ ⟨b1, rfl, rfl, rfl⟩; refine lrun rfl (t_seq (t_freezeRow b1 (fun J hJ h1 => ?_))); refine t_region (lq rfl (q_makeFunc rfl rfl rfl) (lrun rfl (t_ret (n_ret1 rfl rfl (fun w' hw => ?_))))); exact ⟨_, rfl, J, _, ⟨hJ, rfl, b1, rfl, h1 0 _ rfl⟩, hw⟩
theorem appendSeq_calls (s : List UInt8) (b : Nat) (I : Look) (F : List HA) (w0 w : World) (hs : s.length ≤ 900000000) (hG : EnvI I) (hb : CellI I b 0 (str s)) (hw0 : St w0 I F w) : Calls Tryz.prog 142 [.slice none 0 0, .func (.func 143) #[] #[.pointer (some ⟨b, 0, none⟩)]].toArray w (fun e w' => ∃ v, e = .returned v ∧ ∃ I' H', (Le I I' ∧ F = H' ∧ Sl I' 3 v ((lexL s).map lxC)) ∧ St w I' H' w') := by
 have hll0 := lexL_len s
 refine enterMN Tryz.func142 rfl Tryz.ntmps142 rfl (hw0.self) (tr (le rfl (e_box rfl rfl (by rfl)) ?_)); rintro _ _ _ ⟨b2, rfl, rfl, rfl⟩; refine lrun rfl (t_seq (trun rfl (t_block (t_range (γ := Value × List Lx) (lexemes_iter s b I hs hG) rfl rfl Tryz.func143 (by kernel_rfl) rfl (fun nn zz => zz.2 = (lexL s).take nn) (fun _ _ => False) F (fun zz TT => (row b2 214 [zz.1] :: tvec 217 3 lxC zz.1 zz.2 :: TT)) (fun _ _ => rfl) (fun zz => I) [(0, _), (1, _), (2, _), (4, _), (6, _)] (sub_rfl rfl) (.slice none 0 0, []) ?_ ?_ ?_ ?_ rfl ?_ ?_ ?_ (fun _ _ _ h => h.elim)))))
 ·rfl
 ·exact ⟨hb, Le.refl _⟩
 ·exact Le.refl _
 ·exact fun _ h => subC_st (st_nilT 217 3 lxC h)
 ·exact lxVs_one
 ·intro bl ready busy done dfr nn vs gg w0r FF hi hinv hrs hbz; obtain ⟨v1, l1⟩ := gg
  have hl1 := hinv
  dsimp only at *; obtain ⟨hnl, rfl⟩ := lxV_one hi
  have hll := congrArg List.length hl1
  rw [List.length_take] at hll; refine t_region (le rfl (e_alloc rfl ti217 rfl) ?_); rintro _ _ _ ⟨b5, rfl, rfl, rfl⟩; refine l_e0 rfl rfl ((by exact e_store_all rfl ti217 rfl rfl rfl (by exact lxC_ones _) rfl)) ?_; rintro _ _ _ ⟨rfl, rfl⟩; refine l_nil (n_begin (by rfl) hrs ?_); refine t_block (t_region (lq rfl (q_ld rfl rfl (by rfl)) ?_)); refine lq rfl (q_load_rowA rfl un217 ti217 rfl rfl rfl) (le rfl (e_buildSlice1 rfl un214 ti217 rfl rfl rfl (by rfl) rfl) ?_); rintro _ _ _ ⟨b10, rfl, rfl, rfl⟩; refine le rfl (e_appendT (f := lxC) (c := nth (lexL s) nn lx0) rfl un214 ti217 rfl rfl rfl rfl rfl rfl rfl (by exact lxC_ones _) (by simp only [maxLen]; omega) (by omega)) ?_; rintro v11 _ _ ⟨rfl, rfl⟩; refine l_one v11 (fun hone => ?_); refine l_e0 rfl rfl (e_storeS rfl ti214 rfl rfl (by assumption) rfl (by (simp only [List.set_cons_succ, List.set_cons_zero]; rfl))) ?_; rintro _ _ _ ⟨rfl, rfl⟩; refine l_nil (n_block (n_rnext (fun w' hw' => .inl ⟨rfl, ((v11, l1 ++ [nth (lexL s) nn lx0])), ?_, ?_, ?_⟩)))
  ·dsimp only; rw [hl1, take_nth lx0 hnl]
  ·exact Le.refl _
  ·dsimp only; exact subC_st hw'
 intro bd gg hinv hle; obtain ⟨v1, l1⟩ := gg
 have hl1 := hinv
 dsimp only at *; rw [List.length_map, List.take_length] at hl1; subst hl1; refine n_block (n_then (t_seq (t_freezeT (f := lxC) (l := lexL s) v1 (fun _ => rfl) (fun J hJ hv => ?_)))); refine t_region (lq rfl (q_ld rfl rfl (by rfl)) ?_); refine lrun rfl (t_ret (n_np_ret (n_ret1M (bs := [bd]) rfl rfl (fun w' hw => ?_)))); exact ⟨_, rfl, J, F, ⟨hJ, rfl, hv⟩, subC_st hw⟩
theorem collect_calls (s : List UInt8) (b : Nat) (I : Look) (F : List HA) (w0 w : World) (hs : s.length ≤ 900000000) (hG : EnvI I) (hb : CellI I b 0 (str s)) (hw0 : St w0 I F w) : Calls Tryz.prog 117 [.func (.func 143) #[] #[.pointer (some ⟨b, 0, none⟩)]].toArray w (fun e w' => ∃ v, e = .returned v ∧ ∃ I' H', (Le I I' ∧ F = H' ∧ Sl I' 3 v ((lexL s).map lxC)) ∧ St w I' H' w') := by
 refine enter Tryz.func117 rfl Tryz.ntmps117 rfl (hw0.self) (trun rfl (tr (l_run 1 rfl (lec rfl rfl rfl rfl (fun w hw => appendSeq_calls s b _ _ _ w hs hG hb hw) ?_)))); rintro v4 J4 _ ⟨hJ4, rfl, hv4⟩; refine lrun rfl (t_ret (n_ret1 rfl rfl (fun w' hw => ?_))); exact ⟨_, rfl, J4, _, ⟨hJ4, rfl, hv4⟩, hw⟩
end Go.Tri

/-
 A reader: its small steps.
-/
namespace Go.Tri
open Go.Proofs Go.RowKit
set_option maxRecDepth 10000
/-- a reader's cells -/
def rdrC (lv : Value) (nw th : Lx) (e : Nat) : List Value := [lv, str nw.text, .int .i64 nw.worth, .int .i64 (nw.what : Int), str th.text, .int .i64 th.worth, .int .i64 (th.what : Int), .int .i64 (e : Int)]
def nilS : Value := .slice none 0 0
/-- an expression's cells -/
def exC (op nm : List UInt8) (n : Int) (kv : Value) : List Value := [str op, str nm, .int .i64 n, kv]
theorem rds_lx {w0 : World} {I : Look} {H : List HA} {v : Value} {l : List Lx} (h : Sl I 3 v (l.map lxC)) {i : Nat} (hi : i < l.length) : Rds w0 I H (adr v).block ((adr v).off + i * 3) (lxC (nth l i lx0)) := h.rds (map_getD l lxC lx0 hi)
theorem isL_of {x : Lx} {t : List UInt8} : (decide ((x.what : Int) = 3) && decide (x.text = t)) = (decide (x.what = 3) && decide (x.text = t)) := by
 by_cases h : x.what = 3 <;> simp [h] <;> omega
theorem nth_any {α : Type} (l : List α) {d d2 : α} (h : 0 < l.length) : nth l 0 d = nth l 0 d2 := by rw [nth_eq h, nth_eq h]
def lvL : List (List UInt8) := [[32, 124, 124, 32], [32, 38, 38, 32], [32, 124, 32], [32, 94, 32], [32, 38, 32], [32, 61, 61, 32, 33, 61, 32], [32, 60, 32, 60, 61, 32, 62, 32, 62, 61, 32], [32, 60, 60, 32, 62, 62, 32], [32, 43, 32, 45, 32], [32, 42, 32, 47, 32, 37, 32]]
theorem lv_at {v : Nat} (h : v < 10) : lvS v = nth lvL v [] := by
 match v, h with
 | 0, _ => rfl
 | 1, _ => rfl
 | 2, _ => rfl
 | 3, _ => rfl
 | 4, _ => rfl
 | 5, _ => rfl
 | 6, _ => rfl
 | 7, _ => rfl
 | 8, _ => rfl
 | 9, _ => rfl
theorem rd_lv {w0 : World} {I : Look} {H : List HA} {b T : Nat} {k : Nat} (hm : row b T (lvL.map str) ∈ H) (hk : k < 10) : Rd w0 I H b (0 + k * 1) (str (nth lvL k [])) := by
 rw [Nat.zero_add, Nat.mul_one]; refine rd_row hm ?_
 have h : k < lvL.length := hk
 rw [List.getElem?_map, List.getElem?_eq_getElem h, nth_eq h]; rfl
theorem step_calls (b : Nat) (lv : Value) (nw th : Lx) (e : Nat) (Ls : List Lx) (I : Look) (F : List HA) (w0 w : World) (hsl : Sl I 3 lv (Ls.map lxC)) (hw0 : St w0 I (row b 222 (rdrC lv nw th e) :: F) w) : Calls Tryz.prog 119 [pAt b].toArray w (fun e1 w' => ∃ v, e1 = .returned v ∧ ∃ I' H', (I = I' ∧ v = .tuple #[] ∧ ∃ lv', H' = row b 222 (rdrC lv' th (nth Ls 0 th) e) :: F ∧ Sl I 3 lv' ((Ls.drop 1).map lxC)) ∧ St w I' H' w') := by
 refine enter Tryz.func119 rfl Tryz.ntmps119 rfl (hw0.self) (tr (l_run 4 rfl (lq rfl ((by exact q_load_rowA rfl un217 ti217 rfl rfl rfl)) ?_))); refine l_run 2 rfl (l_e0 rfl rfl ((by exact e_store_agg rfl ti217 rfl rfl rfl (by exact lxC_ones _) rfl)) ?_); rintro _ _ _ ⟨rfl, rfl⟩; refine l_heap (H' := row b 222 (rdrC lv th th e) :: F) ?_ (fun _ h => h); refine lnr1 (l_run 3 rfl (lq rfl (q_ld rfl rfl (by rfl)) ?_)); refine lq rfl ((by exact q_len rfl un214 rfl (Sl.lenOf hsl (List.length_map _)))) ?_; refine lrun rfl (t_cond rfl (fun hc0 => ?_) (fun hc0 => ?_))
 ·simp at hc0
  have hl0 : 0 < Ls.length := by omega
  have hcut := Sl.dropM hsl rfl (show 1 ≤ Ls.length by omega)
  refine t_draw [15, 18] [] [] mo (by kernel_rfl) (fun _ _ _ _ _ h => h) (r_run [0, 1, 2, 3, 4] (by kernel_rfl) rfl rfl rfl (rq1 5 (by kernel_rfl) rfl rfl (q_ld rfl rfl (by rfl)) ?_)); refine rqf 6 (by kernel_rfl) rfl rfl (fun _ => (by exact q_indexAddrN rfl un214 ti217 rfl rfl (Sl.shape hsl (List.length_map _)) (by omega))) ?_; refine rq1 7 (by kernel_rfl) rfl rfl ((by exact q_load_agg rfl un217 ti217 rfl rfl (rds_lx (i := 0) hsl (by omega)))) ?_; refine r_run [8, 9, 10] (by kernel_rfl) rfl rfl rfl (rq1 11 (by kernel_rfl) rfl rfl (q_ld rfl rfl (by rfl)) ?_); refine rqf 12 (by kernel_rfl) rfl rfl (fun _ => (by exact q_slice_from rfl un214 ti217 rfl rfl (Sl.lenOf hsl (List.length_map _)) (by omega))) ?_; refine r_run [13, 14] (by kernel_rfl) rfl rfl rfl (r_e0 15 (by kernel_rfl) (by kernel_rfl) rfl (Le.refl _) rfl rfl ((by exact e_store_agg rfl ti217 rfl rfl rfl (by exact lxC_ones _) rfl)) ?_); rintro _ _ _ ⟨rfl, rfl⟩; refine ⟨Le.refl _, .inr SubC.sub, ?_⟩; refine r_heap (H' := row b 222 (rdrC lv th (nth Ls 0 lx0) e) :: F) ?_ (fun _ h => h); refine r_run [16, 17] (by kernel_rfl) rfl rfl rfl ?_; refine r_e0 18 (by kernel_rfl) (by kernel_rfl) rfl (Le.refl _) rfl rfl (e_storeS rfl ti214 rfl rfl (by exact (Sl.dropM hsl rfl (by omega)).one) rfl (by rfl)) ?_; rintro _ _ _ ⟨rfl, rfl⟩; refine ⟨Le.refl _, .inr SubC.sub, ?_⟩; refine r_heap (H' := row b 222 (rdrC (cutV 3 1 Ls.length lv) th (nth Ls 0 lx0) e) :: F) ?_ (fun _ h => h)
  refine r_end (by kernel_rfl) (n_end0 rfl (fun w' hw => ?_)); refine ⟨_, rfl, I, _, ⟨rfl, rfl, cutV 3 1 Ls.length lv, ?_, hcut⟩, hw⟩; rw [nth_any Ls (d := th) (d2 := lx0) hl0]
 ·simp at hc0
  have hl0 : Ls = [] := by simpa using hc0
  subst hl0; refine t_skip (n_end0 rfl (fun w' hw => ?_)); exact ⟨_, rfl, I, _, ⟨rfl, rfl, lv, rfl, hsl⟩, hw⟩
theorem afail_calls (b : Nat) (lv : Value) (nw th : Lx) (k : Nat) (I : Look) (F : List HA) (w0 w : World) (hw0 : St w0 I (row b 222 (rdrC lv nw th 0) :: F) w) : Calls Tryz.prog 121 [pAt b, .int .i64 (k : Int)].toArray w (fun e1 w' => ∃ v, e1 = .returned v ∧ ∃ I' H', (I = I' ∧ ∃ q, v = pAt q ∧ H' = row b 222 (rdrC lv nw th k) :: F) ∧ St w I' H' w') := by
 refine enter Tryz.func121 rfl Tryz.ntmps121 rfl (hw0.self) (trun rfl (t_seq (tr (l_run 3 rfl (lq rfl (q_ld rfl rfl (by rfl)) ?_))))); refine lrun rfl (t_cond rfl (fun hc0 => ?_) (fun hc0 => ?_))
 ·simp at hc0
  refine t_region (l_run 4 rfl ?_); refine l_e0 rfl rfl (e_storeS rfl ti28 rfl rfl (by exact ⟨rfl, rfl⟩) rfl (by rfl)) ?_; rintro _ _ _ ⟨rfl, rfl⟩; refine l_heap (H' := row b 222 (rdrC lv nw th k) :: F) ?_ (fun _ h => h); refine lnr1 (lq rfl (q_build (pl := [(_, _), (_, _), (_, _), (_, _)]) (cs := (exC [] [] 0 nilS).toArray) rfl un212 ti212 ⟨rfl, ⟨_, _, ti9⟩, rfl, ⟨_, _, ti9⟩, rfl, ⟨_, _, ti2⟩, rfl, ⟨_, _, ti210⟩, trivial⟩ rfl rfl) (le rfl (e_box rfl rfl rfl) ?_)); rintro _ _ _ ⟨b15, rfl, rfl, rfl⟩; refine lrun rfl (t_ret (n_ret1 rfl rfl (fun w' hw => ?_))); exact ⟨_, rfl, I, _, ⟨rfl, b15, rfl, rfl⟩, subC_st hw⟩
 ·simp at hc0
theorem is_pure (b : Nat) (lv : Value) (nw th : Lx) (e : Nat) (t : List UInt8) (w : World) (hb : RowI (look w) b (rdrC lv nw th e)) : Pure Tryz.prog 164 [pAt b, str t] w (.bool (decide (nw.what = 3) && decide (nw.text = t))) := by
 refine enter Tryz.func164 rfl Tryz.ntmps164 rfl (St.start w (look w) (Le.refl _)) (trun rfl (tq (s_run 4 rfl (sq rfl ((by exact q_ldr rfl rfl (rd_imm (hb 3 _ rfl)))) ?_)))); refine s_run 2 rfl ?_
 refine s_and2 7 6 11 19 18 _ _ rfl rfl rfl rfl rfl rfl (fun h19 => by
   simp at h19
   refine s_runG 4 rfl (sg rfl ((by exact q_ldr rfl rfl (rd_imm (hb 1 _ rfl)))) ?_); refine s_runG 1 rfl (sg rfl (q_eql_str rfl rfl rfl) ?_); exact s_val rfl
  ) (wanted_n rfl) rfl rfl rfl ?_
 refine s_run 1 rfl (sdn (t_ret (n_ret1 rfl rfl (fun w' hw => ?_)))); refine ⟨?_, hw.below⟩; rw [← isL_of]
theorem levels_pure (v : Nat) (w : World) (hv : v < 10) : Pure Tryz.prog 172 [.int .i64 (v : Int)] w (str (lvS v)) := by
 refine enter Tryz.func172 rfl Tryz.ntmps172 rfl (St.start w (look w) (Le.refl _)) (trun rfl (tr (le rfl (e_buildSliceN (vs := [_, _, _, _, _, _, _, _, _, _]) (css := [[str [32, 124, 124, 32]], [str [32, 38, 38, 32]], [str [32, 124, 32]], [str [32, 94, 32]], [str [32, 38, 32]], [str [32, 61, 61, 32, 33, 61, 32]], [str [32, 60, 32, 60, 61, 32, 62, 32, 62, 61, 32]], [str [32, 60, 60, 32, 62, 62, 32]], [str [32, 43, 32, 45, 32]], [str [32, 42, 32, 47, 32, 37, 32]]]) rfl un23 ti9 rfl rfl rfl rfl (rfl) (by simp [pcC, chC])) ?_))); rintro _ _ _ ⟨b3, rfl, rfl, rfl⟩; refine l_heap (H' := row b3 9 (lvL.map str) :: []) ?_ (fun _ h => h); refine l_run 1 rfl ?_; refine lq rfl ((by exact q_indexAddrN rfl un23 ti9 rfl rfl (⟨_, _, rfl, fun _ _ h => by cases h; rfl, fun _ h => by cases h⟩) (by omega))) ?_; refine lq rfl ((by exact q_ldr rfl rfl (rd_lv (b := b3) (T := 9) (k := v) (List.mem_cons_self) hv))) ?_; refine lrun rfl (t_ret (n_ret1 rfl rfl (fun w' hw => ?_))); refine ⟨?_, hw.below⟩; rw [lv_at hv]
end Go.Tri

/-
 A reader: operands.
-/
namespace Go.Tri
open Go.Proofs Go.RowKit
set_option maxRecDepth 10000
def nameS : List UInt8 := [110, 97, 109, 101]
def unaS : List (List UInt8) := [[49, 43], [49, 45], [49, 33], [49, 126]]
/-- an expression in memory -/
def ExAt (J : Look) : Ex → Nat → Prop
 | .num n, q => RowI J q (exC [] [] n nilS)
 | .var nm, q => RowI J q (exC nameS nm 0 nilS)
 | .asg op nm k, q => (op ≠ [] ∧ op ≠ nameS ∧ nm ≠ [] ∧ op.length ≤ 900000000) ∧ ∃ kv a, RowI J q (exC op nm 0 kv) ∧ Sl J 1 kv ([pAt a].map fun x => [x]) ∧ ExAt J k a
 | .una op k, q => op ∈ unaS ∧ ∃ kv a, RowI J q (exC op [] 0 kv) ∧ Sl J 1 kv ([pAt a].map fun x => [x]) ∧ ExAt J k a
 | .bin op x y, q => (op ≠ [] ∧ op ≠ nameS ∧ op ∉ unaS ∧ op ≠ [63]) ∧ ∃ kv a b, RowI J q (exC op [] 0 kv) ∧ Sl J 1 kv ([pAt a, pAt b].map fun x => [x]) ∧ ExAt J x a ∧ ExAt J y b
 | .cho x y z, q => ∃ kv a b c, RowI J q (exC [63] [] 0 kv) ∧ Sl J 1 kv ([pAt a, pAt b, pAt c].map fun x => [x]) ∧ ExAt J x a ∧ ExAt J y b ∧ ExAt J z c
theorem ExAt.mono {J K : Look} (hle : Le J K) : ∀ {x : Ex} {q : Nat}, ExAt J x q → ExAt K x q
 | .num n, q, h => RowI.mono h hle
 | .var nm, q, h => RowI.mono h hle
 | .asg op nm k, q, ⟨h0, kv, a, h1, h2, h3⟩ => ⟨h0, kv, a, h1.mono hle, h2.mono hle, ExAt.mono hle h3⟩
 | .una op k, q, ⟨h0, kv, a, h1, h2, h3⟩ => ⟨h0, kv, a, h1.mono hle, h2.mono hle, ExAt.mono hle h3⟩
 | .bin op x y, q, ⟨h0, kv, a, b, h1, h2, h3, h4⟩ => ⟨h0, kv, a, b, h1.mono hle, h2.mono hle, ExAt.mono hle h3, ExAt.mono hle h4⟩
 | .cho x y z, q, ⟨kv, a, b, c, h1, h2, h3, h4, h5⟩ => ⟨kv, a, b, c, h1.mono hle, h2.mono hle, ExAt.mono hle h3, ExAt.mono hle h4, ExAt.mono hle h5⟩
/-- what a reader's step left behind -/
def PARes (J : Look) (r : PA) (q : Nat) (lv : Value) (nw th : Lx) (e1 : Nat) : Prop := match r with
 | .ok x L1 => e1 = 0 ∧ nw = nowL L1 ∧ th = thenL L1 ∧ Tk L1 ∧ ExAt J x q ∧ Sl J 3 lv ((L1.drop 2).map lxC)
 | .bad e => e1 = e ∧ e1 ≠ 0
theorem PARes.t {J : Look} {r : PA} {q : Nat} {lv : Value} {nw th : Lx} {e1 : Nat} (h : PARes J r q lv nw th e1) (he : e1 = 0) : ∃ x L1, r = .ok x L1 ∧ nw = nowL L1 ∧ th = thenL L1 ∧ Tk L1 ∧ ExAt J x q ∧ Sl J 3 lv ((L1.drop 2).map lxC) := by
 cases r with
 | ok x L1 => exact ⟨x, L1, rfl, h.2⟩
 | bad e => exact absurd he h.2
theorem PARes.f {J : Look} {r : PA} {q : Nat} {lv : Value} {nw th : Lx} {e1 : Nat} (h : PARes J r q lv nw th e1) (he : e1 ≠ 0) : r = .bad e1 := by
 cases r with
 | ok x L1 => exact absurd h.1 he
 | bad e => rw [h.1]
theorem pa_bad {J : Look} {r : PA} {q : Nat} {lv : Value} {nw th : Lx} {e1 : Nat} (hr : r = .bad e1) (he : e1 ≠ 0) : PARes J r q lv nw th e1 := by rw [hr]; exact ⟨rfl, he⟩
theorem pa_ok {J : Look} {r : PA} {q : Nat} {lv : Value} {x : Ex} {L1 : List Lx} (hr : r = .ok x L1) (hT : Tk L1) (hx : ExAt J x q) (hs : Sl J 3 lv ((L1.drop 2).map lxC)) : PARes J r q lv (nowL L1) (thenL L1) 0 := by rw [hr]; exact ⟨rfl, rfl, rfl, hT, hx, hs⟩
/-- a reader's function tells what rd tells -/
def ReadC (fid : Nat) (args : List Value) (rd : List Lx → PA) : Prop := ∀ (b : Nat) (lv : Value) (L : List Lx) (I : Look) (F : List HA) (w0 w : World), Tk L → EnvI I → Sl I 3 lv ((L.drop 2).map lxC) → St w0 I (row b 222 (rdrC lv (nowL L) (thenL L) 0) :: F) w →
 Calls Tryz.prog fid (pAt b :: args).toArray w (fun e w' => ∃ v, e = .returned v ∧ ∃ I' H', (Le I I' ∧ ∃ q lv' nw' th' e1, v = pAt q ∧ H' = row b 222 (rdrC lv' nw' th' e1) :: F ∧ PARes I' (rd L) q lv' nw' th' e1) ∧ St w I' H' w')
theorem step_L (b : Nat) (lv : Value) (L : List Lx) (e : Nat) (I : Look) (F : List HA) (w0 w : World) (hT : Tk L) (hsl : Sl I 3 lv ((L.drop 2).map lxC)) (hw0 : St w0 I (row b 222 (rdrC lv (nowL L) (thenL L) e) :: F) w) :
  Calls Tryz.prog 119 [pAt b].toArray w (fun e1 w' => ∃ v, e1 = .returned v ∧ ∃ I' H', (I = I' ∧ v = .tuple #[] ∧ ∃ lv', H' = row b 222 (rdrC lv' (nowL (stepL L)) (thenL (stepL L)) e) :: F ∧ Sl I 3 lv' (((stepL L).drop 2).map lxC)) ∧ St w I' H' w') := by
 rw [nowL_step hT.1, thenL_step hT.1, drop_step2 hT.1]; exact step_calls b lv (nowL L) (thenL L) e (L.drop 2) I F w0 w hsl hw0
def LevOk (d : Int) (R : RdA) : Prop := ReadC 120 [.int .i64 d] R.asg ∧ ReadC 145 [.int .i64 d] R.cho ∧ ReadC 171 [.int .i64 d] R.opd
theorem una_op {L : List Lx} (h : unaB L = true) : [49] ++ (nowL L).text ∈ unaS := by
 unfold unaB isL at h; simp only [Bool.or_eq_true, Bool.and_eq_true, decide_eq_true_eq] at h
 rcases h with ((h | h) | h) | h <;> rw [h.2] <;> decide
theorem una_res {R : RdA} {L : List Lx} {J K : Look} {q b41 b43 : Nat} {lv : Value} {nw th : Lx} {e : Nat} (hu : unaB L = true) (hr : PARes J (R.opd (stepL L)) q lv nw th e) (hle : Le J K) (hk : RowI K b41 [pAt q]) (hx : RowI K b43 (exC ([49] ++ (nowL L).text) [] 0 (.slice (some ⟨b41, 0, none⟩) 1 1))) :
  PARes K (opdP R L) b43 lv nw th e := by
 unfold opdP; rw [if_pos hu]
 cases h : R.opd (stepL L) with
 | bad e2 => rw [h] at hr; exact hr
 | ok x L1 =>
  rw [h] at hr; obtain ⟨h1, h2, h3, h4, h5, h6⟩ := hr; exact ⟨h1, h2, h3, h4, ⟨una_op hu, _, q, hx, sl_row1 hk (Nat.le_refl _), h5.mono hle⟩, h6.mono hle⟩
theorem lvS_len (v : Nat) : (lvS v).length ≤ 100 := by
 unfold lvS; split <;> decide
/-- sides, while they are read -/
def SInv (m j : Nat) (I : Look) (TOT : PA) (q : Nat) (lv : Value) (nw th : Lx) (e1 : Nat) (J : Look) (x : Ex) (L : List Lx) (g : Nat) : Prop :=
 Le I J ∧ (e1 = 0 → nw = nowL L ∧ th = thenL L ∧ Tk L ∧ ExAt J x q ∧ Sl J 3 lv ((L.drop 2).map lxC) ∧ L.length ≤ g ∧ TOT = sidG (9 - j) (sidP (rdA m) j) g x L) ∧ (e1 ≠ 0 → TOT = .bad e1)
theorem sinv_start {m j : Nat} {I J : Look} {L0 : List Lx} {q : Nat} {lv : Value} {nw th : Lx} {e1 : Nat} (hle : Le I J) (hr : PARes J (sidP (rdA m) j L0) q lv nw th e1) : ∃ x L g, SInv m j I (sidP (rdA m) (j + 1) L0) q lv nw th e1 J x L g := by
 rw [sidP]
 cases h : sidP (rdA m) j L0 with
 | bad e => rw [h] at hr; exact ⟨.num 0, [], 0, hle, fun he => absurd he hr.2, fun _ => by rw [hr.1]⟩
 | ok x L1 => rw [h] at hr; exact ⟨x, L1, L1.length, hle, fun _ => ⟨hr.2.1, hr.2.2.1, hr.2.2.2.1, hr.2.2.2.2.1, hr.2.2.2.2.2, Nat.le_refl _, rfl⟩, fun he => absurd hr.1 he⟩
theorem bin_op {v : Nat} {L : List Lx} (h : binB v L = true) : (nowL L).text ≠ [] ∧ (nowL L).text ≠ nameS ∧ (nowL L).text ∉ unaS ∧ (nowL L).text ≠ [63] := by
 unfold binB at h; rw [Bool.and_eq_true] at h
 have key : ∀ t : List UInt8, Lib.contains (lvS v) ([32] ++ t ++ [32]) = true → t ≠ [] ∧ t ≠ nameS ∧ t ∉ unaS ∧ t ≠ [63] := by
  intro t ht
  have no : ∀ t : List UInt8, (List.range 10).all (fun k => !Lib.contains (lvS k) ([32] ++ t ++ [32])) = true → Lib.contains (lvS v) ([32] ++ t ++ [32]) = false := by
   intro t h; rcases Nat.lt_or_ge v 10 with hv | hv
   ·simpa using List.all_eq_true.1 h v (List.mem_range.2 hv)
   ·have h9 := List.all_eq_true.1 h 9 (List.mem_range.2 (by decide))
    have : lvS v = lvS 9 := by
     unfold lvS; split <;> first | omega | rfl
    rw [this]; simpa using h9
  have x : ∀ u : List UInt8, (List.range 10).all (fun k => !Lib.contains (lvS k) ([32] ++ u ++ [32])) = true → t ≠ u := fun u hu he => by
   subst he; rw [no _ hu] at ht; cases ht
  refine ⟨x _ (by decide), x _ (by decide), fun hm => ?_, x _ (by decide)⟩; simp only [unaS, List.mem_cons, List.not_mem_nil, or_false] at hm; rcases hm with h | h | h | h
  ·exact x [49, 43] (by decide) h
  ·exact x [49, 45] (by decide) h
  ·exact x [49, 33] (by decide) h
  ·exact x [49, 126] (by decide) h
 exact key _ h.2
theorem bin_stop {v : Nat} {L : List Lx} (h : binB v L = true) : stopL (nowL L) = false := by
 unfold binB at h; rw [Bool.and_eq_true, decide_eq_true_eq] at h
 unfold stopL; rw [h.1]; rfl
theorem sinv_next {m j : Nat} {I J K K2 : Look} {TOT : PA} {q q2 b1 b2 : Nat} {lv lv2 : Value} {nw2 th2 : Lx} {e2 : Nat} {x : Ex} {L : List Lx} {g : Nat} (h : SInv m j I TOT q lv (nowL L) (thenL L) 0 J x L g) (hb : binB (9 - j) L = true) (hJK : Le J K)
  (hr : PARes K (sidP (rdA m) j (stepL L)) q2 lv2 nw2 th2 e2) (hle : Le K K2) (hk : RowI K2 b1 [pAt q, pAt q2]) (hx : RowI K2 b2 (exC (nowL L).text [] 0 (.slice (some ⟨b1, 0, none⟩) 2 2))) : ∃ x' L', SInv m j I TOT b2 lv2 nw2 th2 e2 K2 x' L' (g - 1) := by
 obtain ⟨hIJ, h0, _⟩ := h; obtain ⟨_, _, hT, hxq, _, hg, htot⟩ := h0 rfl
 have h2 := stepL_lt hT (bin_stop hb)
 obtain ⟨f, rfl⟩ : ∃ f, g = f + 1 := ⟨g - 1, by have := hT.pos; omega⟩; rw [sidG, if_pos hb] at htot
 have hI2 := hIJ.trans (hJK.trans hle)
 cases hs : sidP (rdA m) j (stepL L) with
 | bad e =>
  rw [hs] at hr htot; exact ⟨.num 0, [], hI2, fun he => absurd he hr.2, fun _ => by rw [htot, hr.1]⟩
 | ok y L1 =>
  have hgd := good_sidP (good_rdA m) j _ hT.step y L1 hs
  rw [hs] at hr htot; obtain ⟨h1, h3, h4, h5, h6, h7⟩ := hr; exact ⟨.bin (nowL L).text x y, L1, hI2, fun _ => ⟨h3, h4, h5, ⟨bin_op hb, _, q, q2, hx, sl_row1 hk (Nat.le_refl _), hxq.mono (hJK.trans hle), h6.mono hle⟩, h7.mono hle, by show L1.length ≤ f; omega, htot⟩, fun he => absurd h1 he⟩
theorem sinv_end {m j : Nat} {I J : Look} {TOT : PA} {q : Nat} {lv : Value} {nw th : Lx} {e1 : Nat} {x : Ex} {L : List Lx} {g : Nat} (h : SInv m j I TOT q lv nw th e1 J x L g) (hb : e1 = 0 → binB (9 - j) L = false) : PARes J TOT q lv nw th e1 := by
 obtain ⟨_, h0, h1⟩ := h
 by_cases he : e1 = 0
 ·obtain ⟨a1, a2, a3, a4, a5, a6, a7⟩ := h0 he; subst he a1 a2
  have : TOT = .ok x L := by
   rw [a7]
   cases g with
   | zero => rfl
   | succ g => rw [sidG, if_neg (by rw [hb rfl]; simp)]
  exact pa_ok this a3 a4 a5
 ·exact pa_bad (h1 he) he
theorem bin_on {e1 v : Nat} {nw : Lx} (h : ((decide ((e1 : Int) = 0) && decide ((nw.what : Int) = 3)) && Lib.contains (lvS v) ([32] ++ nw.text ++ [32])) = true) : e1 = 0 ∧ (∀ L, nw = nowL L → binB v L = true) := by
 simp only [Bool.and_eq_true, decide_eq_true_eq] at h; refine ⟨by omega, fun L hL => ?_⟩; unfold binB
 rw [← hL, h.2, decide_eq_true (show nw.what = 3 by omega)]; rfl
theorem bin_off {e1 v : Nat} {nw : Lx} (h : ((decide ((e1 : Int) = 0) && decide ((nw.what : Int) = 3)) && Lib.contains (lvS v) ([32] ++ nw.text ++ [32])) = false) : e1 = 0 → ∀ L, nw = nowL L → binB v L = false := fun he L hL => by
 subst he
 cases hb : binB v L with
 | false => rfl
 | true =>
  unfold binB at hb; rw [Bool.and_eq_true, decide_eq_true_eq, ← hL] at hb; rw [hb.2, decide_eq_true (show (nw.what : Int) = 3 by omega)] at h
  cases h
theorem asg_on {L : List Lx} {b : Bool} (h : ((decide (((nowL L).what : Int) = 2) && decide (((thenL L).what : Int) = 3)) && Lib.contains asgS ([32] ++ (thenL L).text ++ [32])) = b) : asgB L = b := by
 rw [← h]; unfold asgB; rw [show decide (((nowL L).what : Int) = 2) = decide ((nowL L).what = 2) by by_cases h : (nowL L).what = 2 <;> simp [h] <;> omega, show decide (((thenL L).what : Int) = 3) = decide ((thenL L).what = 3) by by_cases h : (thenL L).what = 3 <;> simp [h] <;> omega]
theorem asg_op {L : List Lx} (hT : Tk L) (h : asgB L = true) : (thenL L).text ≠ [] ∧ (thenL L).text ≠ nameS ∧ (nowL L).text ≠ [] ∧ (thenL L).text.length ≤ 900000000 := by
 unfold asgB at h; rw [Bool.and_eq_true, Bool.and_eq_true, decide_eq_true_eq, decide_eq_true_eq] at h; refine ⟨fun he => ?_, fun he => ?_, hT.now2.2 h.1.1, hT.then⟩
 ·rw [he] at h; exact absurd h.2 (by decide +kernel)
 ·rw [he] at h; exact absurd h.2 (by decide +kernel)
theorem cl_on {e1 : Nat} {b : Bool} (h : (decide ((e1 : Int) = 0) && !b) = true) : e1 = 0 ∧ b = false := by
 simp only [Bool.and_eq_true, decide_eq_true_eq, Bool.not_eq_true'] at h; exact ⟨by omega, h.2⟩
theorem cl_off {e1 : Nat} {b : Bool} (h : (decide ((e1 : Int) = 0) && !b) = false) : e1 = 0 → b = true := fun he => by
 subst he
 cases b with
 | true => rfl
 | false => cases h
theorem opd_par {R : RdA} {L L1 : List Lx} {x : Ex} {r : PA} (hu : unaB L = false) (hp : isL L [40] = true) (hr : R.asg (stepL L) = .ok x L1) (h : (if isL L1 [41] = true then PA.ok x (stepL L1) else .bad 60) = r) : opdP R L = r := by
 unfold opdP; rw [if_neg (by rw [hu]; simp), if_pos hp, hr, ← h]
theorem opd_parE {R : RdA} {L : List Lx} {e : Nat} (hu : unaB L = false) (hp : isL L [40] = true) (hr : R.asg (stepL L) = .bad e) : opdP R L = .bad e := by
 unfold opdP; rw [if_neg (by rw [hu]; simp), if_pos hp, hr]
theorem opd_num {R : RdA} {L : List Lx} (hu : unaB L = false) (hp : isL L [40] = false) (h : (nowL L).what = 1) : opdP R L = .ok (.num (nowL L).worth) (stepL L) := by
 unfold opdP; rw [if_neg (by rw [hu]; simp), if_neg (by rw [hp]; simp), if_pos h]
theorem opd_var {R : RdA} {L : List Lx} (hu : unaB L = false) (hp : isL L [40] = false) (h1 : ¬ (nowL L).what = 1) (h : (nowL L).what = 2) : opdP R L = .ok (.var (nowL L).text) (stepL L) := by
 unfold opdP; rw [if_neg (by rw [hu]; simp), if_neg (by rw [hp]; simp), if_neg h1, if_pos h]
theorem opd_none {R : RdA} {L : List Lx} (hu : unaB L = false) (hp : isL L [40] = false) (h1 : ¬ (nowL L).what = 1) (h2 : ¬ (nowL L).what = 2) : opdP R L = .bad 60 := by
 unfold opdP; rw [if_neg (by rw [hu]; simp), if_neg (by rw [hp]; simp), if_neg h1, if_neg h2]
theorem opd_calls (n d : Nat) (hn : 25 - d = n) (hd : d ≤ 25) (hR : ∀ m, n = m + 1 → LevOk ((d : Int) + 1) (rdA m)) (b : Nat) (lv : Value) (L : List Lx) (I : Look) (F : List HA) (w0 w : World) (hT : Tk L) (hG : EnvI I) (hsl : Sl I 3 lv ((L.drop 2).map lxC)) (hw0 : St w0 I (row b 222 (rdrC lv (nowL L) (thenL L) 0) :: F) w) : Calls Tryz.prog 171 [pAt b, .int .i64 (d : Int)].toArray w (fun e w' => ∃ v, e = .returned v ∧ ∃ I' H', (Le I I' ∧ ∃ q lv' nw' th' e1, v = pAt q ∧ H' = row b 222 (rdrC lv' nw' th' e1) :: F ∧ PARes I' ((rdA n).opd L) q lv' nw' th' e1) ∧ St w I' H' w') := by
 refine enter Tryz.func171 rfl Tryz.ntmps171 rfl (hw0.self) (trun rfl (t_seq (trun rfl (t_cond rfl (fun hc0 => ?_) (fun hc0 => ?_)))))
 ·simp at hc0
  have hn0 : n = 0 := by omega
  subst hn0; refine tr (l_run 1 rfl (lec rfl rfl rfl rfl (fun w hw => afail_calls b lv (nowL L) (thenL L) 52 _ _ _ w (picks_st1 (row b 222 (rdrC lv (nowL L) (thenL L) 0)) hw)) ?_)); rintro _ _ _ ⟨rfl, q12, rfl, rfl⟩; refine lrun rfl (tret (n_ret1 rfl rfl (fun w' hw => ?_))); exact ⟨_, rfl, I, _, ⟨Le.refl _, _, lv, (nowL L), (thenL L), 52, rfl, rfl, pa_bad rfl (by decide)⟩, hw⟩
 ·simp at hc0
  obtain ⟨m, rfl⟩ : ∃ m, n = m + 1 := ⟨24 - d, by omega⟩; obtain ⟨hA, hC, hO⟩ := hR m rfl; refine tskip (t_seq (t_block (tq (s_run 1 rfl (sq rfl (qc rfl rfl rfl ((fun w hw => is_pure b lv (nowL L) (thenL L) 0 [43] w (rowI_of hw)))) (s_run 1 rfl ?_))))))
  refine s_or2 2 2 16 19 18 _ _ rfl rfl rfl rfl rfl rfl (fun h19 => by
    simp at h19
    refine s_runG 1 rfl (sg rfl (qc rfl rfl rfl ((fun w hw => is_pure b lv (nowL L) (thenL L) 0 [45] w (rowI_of hw)))) ?_); exact s_val rfl
   ) (wanted_n rfl) rfl rfl rfl ?_
  refine s_run 1 rfl ?_
  refine s_or2 2 6 20 23 22 _ _ rfl rfl rfl rfl rfl rfl (fun h23 => by
    simp at h23
    refine s_runG 1 rfl (sg rfl (qc rfl rfl rfl ((fun w hw => is_pure b lv (nowL L) (thenL L) 0 [33] w (rowI_of hw)))) ?_); exact s_val rfl
   ) (wanted_n rfl) rfl rfl rfl ?_
  refine s_run 1 rfl ?_
  refine s_or2 2 10 24 27 26 _ _ rfl rfl rfl rfl rfl rfl (fun h27 => by
    simp at h27
    refine s_runG 1 rfl (sg rfl (qc rfl rfl rfl ((fun w hw => is_pure b lv (nowL L) (thenL L) 0 [126] w (rowI_of hw)))) ?_); exact s_val rfl
   ) (wanted_n rfl) rfl rfl rfl ?_
  refine s_run 1 rfl (sdn (t_cond rfl (fun hc1 => ?_) (fun hc1 => ?_)))
  ·have hu : unaB L = true := hc1
   refine t_seq ?_
   have hbn := hT.now
   refine t_region (l_run 4 rfl (lq rfl (q_ld rfl rfl (by rfl)) ?_)); refine lq rfl (q_cat rfl rfl rfl (by (simp only [List.length_append, List.length_cons, List.length_nil, List.length_take, List.length_drop]; omega))) ?_; refine lrun rfl (tr (l_run 1 rfl (lec rfl rfl rfl rfl (fun w hw => step_L b lv L 0 _ _ _ w hT hsl (picks_st1 (row b 222 (rdrC lv (nowL L) (thenL L) 0)) hw)) ?_))); rintro _ _ _ ⟨rfl, rfl, lv35, rfl, hs35⟩; refine lnr1 (l_run 3 rfl (lq rfl (q_add64 rfl rfl rfl (by omega)) ?_)); refine lec rfl rfl rfl rfl (fun w hw => hO b lv35 (stepL L) _ _ _ w hT.step hG hs35 (picks_st1 (row b 222 (rdrC lv35 (nowL (stepL L)) (thenL (stepL L)) 0)) hw)) ?_; rintro _ J40 _ ⟨hJ40, q40, lv40, nw40, th40, e40, rfl, rfl, hr40⟩; refine le rfl (e_buildSlice1 rfl un210 ti190 rfl rfl rfl (by rfl) rfl) ?_; rintro _ _ _ ⟨b41, rfl, rfl, rfl⟩; refine lq rfl (q_build (pl := [(_, _), (_, _), (_, _), (_, _)]) (cs := (exC ([49] ++ (nowL L).text) [] 0 (.slice (some ⟨b41, 0, none⟩) 1 1)).toArray) rfl un212 ti212 ⟨rfl, ⟨_, _, ti9⟩, rfl, ⟨_, _, ti9⟩, rfl, ⟨_, _, ti2⟩, rfl, ⟨_, _, ti210⟩, trivial⟩ rfl rfl) (le rfl (e_box rfl rfl rfl) ?_); rintro _ _ _ ⟨b43, rfl, rfl, rfl⟩; refine l_freezeRow b41 (fun Ja hJa hka => ?_); refine l_freezeRow b43 (fun Jb hJb hkb => ?_); refine lrun rfl (tret (n_ret1 rfl rfl (fun w' hw => ?_))); exact ⟨_, rfl, Jb, _, ⟨(hJ40.trans hJa).trans hJb, b43, lv40, nw40, th40, e40, rfl, rfl, una_res hu hr40 (hJa.trans hJb) (RowI.mono hka hJb) hkb⟩, hw⟩
  ·have hu : unaB L = false := hc1
   refine tr (l_run 1 rfl (lq rfl (qc rfl rfl rfl ((fun w hw => is_pure b lv (nowL L) (thenL L) 0 [40] w (rowI_of hw)))) (lrun rfl (t_cond rfl (fun hc2 => ?_) (fun hc2 => ?_)))))
   ·have hp : isL L [40] = true := hc2
    refine tr (l_run 1 rfl (lec rfl rfl rfl rfl (fun w hw => step_L b lv L 0 _ _ _ w hT hsl (picks_st1 (row b 222 (rdrC lv (nowL L) (thenL L) 0)) hw)) ?_)); rintro _ _ _ ⟨rfl, rfl, lv48, rfl, hs48⟩; refine lnr1 (l_run 2 rfl (lq rfl (q_add64 rfl rfl rfl (by omega)) ?_)); refine lec rfl rfl rfl rfl (fun w hw => hA b lv48 (stepL L) _ _ _ w hT.step hG hs48 (picks_st1 (row b 222 (rdrC lv48 (nowL (stepL L)) (thenL (stepL L)) 0)) hw)) ?_; rintro _ J52 _ ⟨hJ52, q52, lv52, nw52, th52, e52, rfl, rfl, hr52⟩; refine lrun rfl (t_seq (tq (s_run 3 rfl (sq rfl (q_ld rfl rfl (by rfl)) ?_)))); refine s_run 2 rfl ?_
    refine s_and2 3 5 58 62 61 _ _ rfl rfl rfl rfl rfl rfl (fun h62 => by
      simp at h62
      refine s_runG 1 rfl (sg rfl (qc rfl rfl rfl ((fun w hw => is_pure b lv52 nw52 th52 e52 [41] w (rowI_of hw)))) (s_runG 1 rfl ?_)); exact s_val rfl
     ) (wanted_n rfl) rfl rfl rfl ?_
    refine sdn (t_cond rfl (fun hc3 => ?_) (fun hc3 => ?_))
    ·obtain ⟨he, hcl⟩ := cl_on hc3; subst he; obtain ⟨x1, L1, hr1, rfl, rfl, hT1, hx1, hsl1⟩ := hr52.t rfl; refine tr (l_run 1 rfl (lec rfl rfl rfl rfl (fun w hw => afail_calls b lv52 (nowL L1) (thenL L1) 60 _ _ _ w (picks_st1 (row b 222 (rdrC lv52 (nowL L1) (thenL L1) 0)) hw)) ?_)); rintro _ _ _ ⟨rfl, q64, rfl, rfl⟩; refine lrun rfl (tret (n_ret1 rfl rfl (fun w' hw => ?_))); exact ⟨_, rfl, J52, _, ⟨hJ52, _, lv52, (nowL L1), (thenL L1), 60, rfl, rfl, pa_bad (opd_par hu hp hr1 (by rw [show isL L1 [41] = false from hcl]; rfl)) (by decide)⟩, hw⟩
    ·have h3 := cl_off hc3
     refine tskip (t_seq (tr (l_run 3 rfl (lq rfl (q_ld rfl rfl (by rfl)) ?_)))); refine lrun rfl (t_cond rfl (fun hc4 => ?_) (fun hc4 => ?_))
     ·have he : e52 = 0 := by have := of_decide_eq_true hc4; omega
      subst he; obtain ⟨x1, L1, hr1, rfl, rfl, hT1, hx1, hsl1⟩ := hr52.t rfl; refine t_region (l_run 1 rfl (lec rfl rfl rfl rfl (fun w hw => step_L b lv52 L1 0 _ _ _ w hT1 hsl1 (picks_st1 (row b 222 (rdrC lv52 (nowL L1) (thenL L1) 0)) hw)) ?_)); rintro _ _ _ ⟨rfl, rfl, lv71, rfl, hs71⟩; refine lnr1 (lrun rfl (tret (n_ret1 rfl rfl (fun w' hw => ?_)))); exact ⟨_, rfl, J52, _, ⟨hJ52, q52, lv71, _, _, 0, rfl, rfl, pa_ok (opd_par hu hp hr1 (by rw [if_pos (show isL L1 [41] = true from h3 rfl)])) hT1.step hx1 hs71⟩, hw⟩
     ·have he : e52 ≠ 0 := by have := of_decide_eq_false hc4; omega
      refine tskip (trun rfl (tret (n_ret1 rfl rfl (fun w' hw => ?_)))); exact ⟨_, rfl, J52, _, ⟨hJ52, _, lv52, nw52, th52, e52, rfl, rfl, pa_bad (opd_parE hu hp (hr52.f he)) he⟩, hw⟩
   ·have hp : isL L [40] = false := hc2
    refine tr (l_run 4 rfl (lq rfl (q_ld rfl rfl (by rfl)) ?_)); refine lrun rfl (t_cond rfl (fun hc5 => ?_) (fun hc5 => ?_))
    ·have hw1 : (nowL L).what = 1 := by have := of_decide_eq_true hc5; omega
     refine tr (l_run 4 rfl (lq rfl (q_ld rfl rfl (by rfl)) ?_)); refine lq rfl (q_build (pl := [(_, _), (_, _), (_, _), (_, _)]) (cs := (exC [] [] (nowL L).worth nilS).toArray) rfl un212 ti212 ⟨rfl, ⟨_, _, ti9⟩, rfl, ⟨_, _, ti9⟩, rfl, ⟨_, _, ti2⟩, rfl, ⟨_, _, ti210⟩, trivial⟩ rfl rfl) (le rfl (e_box rfl rfl rfl) ?_); rintro _ _ _ ⟨b86, rfl, rfl, rfl⟩; refine lrun rfl (t_seq (t_freezeRow b86 (fun J hJ hk => ?_))); refine t_region (l_run 1 rfl (lec rfl rfl rfl rfl (fun w hw => step_L b lv L 0 _ _ _ w hT (hsl.mono hJ) (picks_st1 (row b 222 (rdrC lv (nowL L) (thenL L) 0)) hw)) ?_)); rintro _ _ _ ⟨rfl, rfl, lv88, rfl, hs88⟩; refine lnr1 (lrun rfl (tret (n_ret1 rfl rfl (fun w' hw => ?_)))); exact ⟨_, rfl, J, _, ⟨hJ, b86, lv88, _, _, 0, rfl, rfl, pa_ok (opd_num hu hp hw1) hT.step hk hs88⟩, hw⟩
    ·have hw1 : ¬ (nowL L).what = 1 := by have := of_decide_eq_false hc5; omega
     refine tr (l_run 4 rfl (lq rfl (q_ld rfl rfl (by rfl)) ?_)); refine lrun rfl (t_cond rfl (fun hc6 => ?_) (fun hc6 => ?_))
     ·have hw2 : (nowL L).what = 2 := by have := of_decide_eq_true hc6; omega
      refine tr (l_run 4 rfl (lq rfl (q_ld rfl rfl (by rfl)) ?_)); refine lq rfl (q_build (pl := [(_, _), (_, _), (_, _), (_, _)]) (cs := (exC nameS (nowL L).text 0 nilS).toArray) rfl un212 ti212 ⟨rfl, ⟨_, _, ti9⟩, rfl, ⟨_, _, ti9⟩, rfl, ⟨_, _, ti2⟩, rfl, ⟨_, _, ti210⟩, trivial⟩ rfl rfl) (le rfl (e_box rfl rfl rfl) ?_); rintro _ _ _ ⟨b103, rfl, rfl, rfl⟩; refine lrun rfl (t_seq (t_freezeRow b103 (fun J hJ hk => ?_))); refine t_region (l_run 1 rfl (lec rfl rfl rfl rfl (fun w hw => step_L b lv L 0 _ _ _ w hT (hsl.mono hJ) (picks_st1 (row b 222 (rdrC lv (nowL L) (thenL L) 0)) hw)) ?_)); rintro _ _ _ ⟨rfl, rfl, lv105, rfl, hs105⟩; refine lnr1 (lrun rfl (tret (n_ret1 rfl rfl (fun w' hw => ?_)))); exact ⟨_, rfl, J, _, ⟨hJ, b103, lv105, _, _, 0, rfl, rfl, pa_ok (opd_var hu hp hw1 hw2) hT.step hk hs105⟩, hw⟩
     ·have hw2 : ¬ (nowL L).what = 2 := by have := of_decide_eq_false hc6; omega
      refine t_skip (n_block (n_then (tr (l_run 1 rfl (lec rfl rfl rfl rfl (fun w hw => afail_calls b lv (nowL L) (thenL L) 60 _ _ _ w (picks_st1 (row b 222 (rdrC lv (nowL L) (thenL L) 0)) hw)) ?_))))); rintro _ _ _ ⟨rfl, q108, rfl, rfl⟩; refine lrun rfl (t_ret (n_ret1 rfl rfl (fun w' hw => ?_))); exact ⟨_, rfl, I, _, ⟨Le.refl _, _, lv, (nowL L), (thenL L), 60, rfl, rfl, pa_bad (opd_none hu hp hw1 hw2) (by decide)⟩, hw⟩
end Go.Tri

/-
 A reader: expressions.
-/
namespace Go.Tri
open Go.Proofs Go.RowKit
set_option maxRecDepth 10000
theorem sid_calls (m d : Nat) (hd : d ≤ 25) (hO : ReadC 171 [.int .i64 (d : Int)] (opdP (rdA m))) (k : Nat) (hk : k ≤ 10) (ihk : ∀ j, k = j + 1 → ReadC 163 [.int .i64 (((10 - k : Nat) : Int) + 1), .int .i64 (d : Int)] (sidP (rdA m) j)) (b : Nat) (lv : Value) (L : List Lx) (I : Look) (F : List HA) (w0 w : World) (hT : Tk L) (hG : EnvI I) (hsl : Sl I 3 lv ((L.drop 2).map lxC)) (hw0 : St w0 I (row b 222 (rdrC lv (nowL L) (thenL L) 0) :: F) w) : Calls Tryz.prog 163 [pAt b, .int .i64 ((10 - k : Nat) : Int), .int .i64 (d : Int)].toArray w (fun e w' => ∃ v, e = .returned v ∧ ∃ I' H', (Le I I' ∧ ∃ q lv' nw' th' e1, v = pAt q ∧ H' = row b 222 (rdrC lv' nw' th' e1) :: F ∧ PARes I' (sidP (rdA m) k L) q lv' nw' th' e1) ∧ St w I' H' w') := by
 refine enter Tryz.func163 rfl Tryz.ntmps163 rfl (hw0.self) (trun rfl (t_seq (trun rfl (t_cond rfl (fun hc0 => ?_) (fun hc0 => ?_)))))
 ·simp at hc0
  have hk0 : k = 0 := by omega
  subst hk0; refine tr (l_run 2 rfl (lec rfl rfl rfl rfl (fun w hw => hO b lv L _ _ _ w hT hG hsl (picks_st1 (row b 222 (rdrC lv (nowL L) (thenL L) 0)) hw)) ?_)); rintro _ J13 _ ⟨hJ13, q13, lv13, nw13, th13, e13, rfl, rfl, hr13⟩; refine lrun rfl (tret (n_ret1 rfl rfl (fun w' hw => ?_))); exact ⟨_, rfl, J13, _, ⟨hJ13, q13, lv13, nw13, th13, e13, rfl, rfl, hr13⟩, hw⟩
 ·simp at hc0
  obtain ⟨j, rfl⟩ : ∃ j, k = j + 1 := ⟨k - 1, by omega⟩
  have ihs := ihk j rfl
  refine tskip (tr (l_run 2 rfl (lq rfl (q_add64 rfl rfl rfl (by omega)) ?_))); refine l_run 1 rfl (lec rfl rfl rfl rfl (fun w hw => ihs b lv L _ _ _ w hT hG hsl (picks_st1 (row b 222 (rdrC lv (nowL L) (thenL L) 0)) hw)) ?_); rintro _ J18 _ ⟨hJ18, q18, lv18, nw18, th18, e18, rfl, rfl, hr18⟩; refine lrun rfl (t_seq (t_block ?_)); obtain ⟨x0, L0, g0, hst⟩ := sinv_start (m := m) (I := I) hJ18 hr18; refine t_loopE (ι := Nat × Value × Lx × Lx × Nat × Look × Ex × List Lx × Nat) (fun zz => SInv m j I (sidP (rdA m) (j + 1) L) zz.1 zz.2.1 zz.2.2.1 zz.2.2.2.1 zz.2.2.2.2.1 zz.2.2.2.2.2.1 zz.2.2.2.2.2.2.1 zz.2.2.2.2.2.2.2.1 zz.2.2.2.2.2.2.2.2) (fun zz => (if zz.2.2.2.2.1 = 0 then zz.2.2.2.2.2.2.2.2 + 1 else 0)) (fun zz => [(7, pAt zz.1)]) [(0, _), (1, _), (2, _), (6, _), (10, _)] (fun zz => zz.2.2.2.2.2.1) (fun zz => (row b 222 (rdrC zz.2.1 zz.2.2.1 zz.2.2.2.1 zz.2.2.2.2.1) :: F)) (q18, lv18, nw18, th18, e18, J18, x0, L0, g0) ?_ (sub_rfl rfl) (sub_rfl rfl) (fun _ h => subC_st h) ?_
  ·dsimp only; exact hst
  rintro ⟨q, lv, nw, th, e1, J, x, L1, g⟩ hinv; dsimp only at *; obtain ⟨hIJ, hs0, hs1⟩ := id hinv; refine t_seq (t_seq (t_qdraw mo (by kernel_rfl) (fun _ _ _ _ _ h => h) (s_run 3 rfl (sq rfl (q_ld rfl rfl (by rfl)) ?_)))); refine s_run 2 rfl ?_
  refine s_and2 6 5 24 31 30 _ _ rfl rfl rfl rfl rfl rfl (fun h31 => by
    simp at h31
    refine s_runG 4 rfl (sg rfl (q_ld rfl rfl (by rfl)) ?_); refine s_runG 1 rfl ?_; exact s_val rfl
   ) (wanted_n rfl) rfl rfl rfl ?_
  refine s_run 1 rfl ?_
  refine s_and2 10 13 32 43 42 _ _ rfl rfl rfl rfl rfl rfl (fun h43 => by
    simp at h43
    have he0 : e1 = 0 := by omega
    have hbn := (hs0 he0).2.2.1.now
    rw [← (hs0 he0).1] at hbn; refine s_runG 1 rfl (sg rfl (qc rfl rfl rfl ((fun w _ => levels_pure (10 - (j + 1)) w (by omega)))) ?_); refine s_runG 4 rfl (sg rfl (q_ld rfl rfl (by rfl)) ?_); refine sg rfl (q_cat rfl rfl rfl (by (simp only [List.length_append, List.length_cons, List.length_nil, List.length_take, List.length_drop]; omega))) ?_; refine sg rfl (q_cat rfl rfl rfl (by (simp only [List.length_append, List.length_cons, List.length_nil, List.length_take, List.length_drop]; omega))) ?_; refine sg rfl (qc rfl rfl rfl ((fun w hw => contains_pure (lvS (10 - (j + 1))) ([32] ++ nw.text ++ [32]) w (by have := lvS_len (10 - (j + 1)); omega) (hG.mono (hIJ.trans hw.le))))) ?_; exact s_val rfl
   ) (wanted_n rfl) rfl rfl rfl ?_
  refine sdn (t_cond rfl (fun hc1 => ?_) (fun hc1 => ?_))
  ·obtain ⟨he0, hbn⟩ := bin_on hc1; subst he0; obtain ⟨hnw, hth, hT1, hxq, hs1, hgl, htot⟩ := hs0 rfl; subst hnw hth
   have hbb : binB (9 - j) L1 = true := by rw [show 9 - j = 10 - (j + 1) by omega]; exact hbn L1 rfl
   have hbl := hT1.now
   refine tskip (t_block (tr (l_run 4 rfl (lq rfl (q_ld rfl rfl (by rfl)) ?_)))); refine lrun rfl (tr (l_run 1 rfl (lec rfl rfl rfl rfl (fun w hw => step_L b lv L1 0 _ _ _ w hT1 hs1 (picks_st1 (row b 222 (rdrC lv (nowL L1) (thenL L1) 0)) hw)) ?_))); rintro _ _ _ ⟨rfl, rfl, lv50, rfl, hs50⟩; refine ln (t_region (l_run 4 rfl (lq rfl (q_add64 rfl rfl rfl (by omega)) ?_))); refine l_run 1 rfl (lec rfl rfl rfl rfl (fun w hw => ihs b lv50 (stepL L1) _ _ _ w hT1.step (hG.mono hIJ) hs50 (picks_st1 (row b 222 (rdrC lv50 (nowL (stepL L1)) (thenL (stepL L1)) 0)) hw)) ?_); rintro _ J57 _ ⟨hJ57, q57, lv57, nw57, th57, e57, rfl, rfl, hr57⟩; refine le rfl (e_buildSliceN (vs := [_, _]) (css := [[pAt q], [pAt q57]]) rfl un210 ti190 rfl rfl rfl rfl (rfl) (by simp [pcC, chC])) ?_; rintro _ _ _ ⟨b58, rfl, rfl, rfl⟩; refine lq rfl (q_build (pl := [(_, _), (_, _), (_, _), (_, _)]) (cs := (exC (nowL L1).text [] 0 (.slice (some ⟨b58, 0, none⟩) 2 2)).toArray) rfl un212 ti212 ⟨rfl, ⟨_, _, ti9⟩, rfl, ⟨_, _, ti9⟩, rfl, ⟨_, _, ti2⟩, rfl, ⟨_, _, ti210⟩, trivial⟩ rfl rfl) (le rfl (e_box rfl rfl rfl) ?_); rintro _ _ _ ⟨b60, rfl, rfl, rfl⟩; refine l_freezeRow b58 (fun Ja hJa hka => ?_); refine l_freezeRow b60 (fun Jb hJb hkb => ?_); refine l_runA rfl (n_block ?_); obtain ⟨x2, L2, hnx⟩ := sinv_next hinv hbb hJ57 hr57 (hJa.trans hJb) (RowI.mono hka hJb) hkb; refine n_roundE ((b60, lv57, nw57, th57, e57, Jb, x2, L2, g - 1)) ?_ ?_ (sub_rfl rfl) (sub_rfl rfl) (fun _ h => by dsimp only; exact subC_st h)
   ·dsimp only; exact hnx
   ·dsimp only
    have := hT1.pos
    show (if e57 = 0 then g - 1 + 1 else 0) < (if (0 : Nat) = 0 then g + 1 else 0)
    rw [if_pos rfl]
    split <;> omega
  ·have hend := sinv_end hinv (fun he => by rw [show 9 - j = 10 - (j + 1) by omega]; exact bin_off hc1 he L1 (hs0 he).1)
   refine t_exit (n_exit_then (n_exit_then (n_exit_block (n_then (trun rfl (t_ret (n_ret1 rfl rfl (fun w' hw => ?_)))))))); exact ⟨_, rfl, J, _, ⟨hIJ, q, lv, nw, th, e1, rfl, rfl, hend⟩, hw⟩
theorem sid_all (m d : Nat) (hd : d ≤ 25) (hO : ReadC 171 [.int .i64 (d : Int)] (opdP (rdA m))) : ∀ k, k ≤ 10 → ReadC 163 [.int .i64 ((10 - k : Nat) : Int), .int .i64 (d : Int)] (sidP (rdA m) k)
 | 0, hk => fun b lv L I F w0 w hT hG hsl hw0 => sid_calls m d hd hO 0 hk (fun j h => by cases h) b lv L I F w0 w hT hG hsl hw0
 | k + 1, hk => fun b lv L I F w0 w hT hG hsl hw0 => sid_calls m d hd hO (k + 1) hk (fun j h => by
   cases h
   have := sid_all m d hd hO k (by omega)
   rw [show ((10 - k : Nat) : Int) = ((10 - (k + 1) : Nat) : Int) + 1 by omega] at this
   exact this) b lv L I F w0 w hT hG hsl hw0
theorem qn_on {e1 : Nat} {b : Bool} (h : (decide ((e1 : Int) ≠ 0) || !b) = true) : e1 = 0 → b = false := fun he => by
 subst he
 cases b with
 | false => rfl
 | true => cases h
theorem qn_off {e1 : Nat} {b : Bool} (h : (decide ((e1 : Int) ≠ 0) || !b) = false) : e1 = 0 ∧ b = true := by
 simp only [Bool.or_eq_false_iff, decide_eq_false_iff_not, Bool.not_eq_false'] at h; exact ⟨by have := h.1; omega, h.2⟩
theorem cho_one {R : RdA} {L : List Lx} {J : Look} {q : Nat} {lv : Value} {nw th : Lx} {e : Nat} (hr : PARes J (sidP R 10 L) q lv nw th e) (h : e = 0 → (decide (nw.what = 3) && decide (nw.text = [63])) = false) : PARes J (choP R L) q lv nw th e := by
 unfold choP
 cases hs : sidP R 10 L with
 | bad e2 => rw [hs] at hr; exact hr
 | ok x L1 =>
  rw [hs] at hr
  have h2 := h hr.1
  rw [hr.2.1] at h2; simp only; rw [if_neg (by rw [show isL L1 [63] = false from h2]; simp)]; exact hr
theorem cho_no {R : RdA} {L L1 L2 : List Lx} {x y : Ex} (h1 : sidP R 10 L = .ok x L1) (hq : isL L1 [63] = true) (h2 : R.asg (stepL L1) = .ok y L2) (hc : isL L2 [58] = false) : choP R L = .bad 60 := by
 unfold choP
 rw [h1]; simp only
 rw [if_pos hq, h2]; simp only
 rw [if_neg (by rw [hc]; simp)]
theorem cho_E {R : RdA} {L L1 : List Lx} {x : Ex} {e : Nat} (h1 : sidP R 10 L = .ok x L1) (hq : isL L1 [63] = true) (h2 : R.asg (stepL L1) = .bad e) : choP R L = .bad e := by
 unfold choP
 rw [h1]; simp only
 rw [if_pos hq, h2]
theorem cho_res {R : RdA} {L L1 L2 : List Lx} {x y : Ex} {J K : Look} {q1 q2 q3 b1 b2 : Nat} {lv : Value} {nw th : Lx} {e : Nat} (h1 : sidP R 10 L = .ok x L1) (hq : isL L1 [63] = true) (h2 : R.asg (stepL L1) = .ok y L2) (hc : isL L2 [58] = true)
  (hr : PARes J (R.cho (stepL L2)) q3 lv nw th e) (hle : Le J K) (hx : ExAt K x q1) (hy : ExAt K y q2) (hk : RowI K b1 [pAt q1, pAt q2, pAt q3]) (hb : RowI K b2 (exC [63] [] 0 (.slice (some ⟨b1, 0, none⟩) 3 3))) : PARes K (choP R L) b2 lv nw th e := by
 unfold choP
 rw [h1]; simp only
 rw [if_pos hq, h2]; simp only
 rw [if_pos hc]
 cases h3 : R.cho (stepL L2) with
 | bad e2 => rw [h3] at hr; exact hr
 | ok z L3 =>
  rw [h3] at hr; obtain ⟨a1, a2, a3, a4, a5, a6⟩ := hr; exact ⟨a1, a2, a3, a4, ⟨_, q1, q2, q3, hb, sl_row1 hk (Nat.le_refl _), hx, hy, a5.mono hle⟩, a6.mono hle⟩
theorem asg_res {R : RdA} {L : List Lx} {J K : Look} {q b1 b2 : Nat} {lv : Value} {nw th : Lx} {e : Nat} (hT : Tk L) (ha : asgB L = true) (hr : PARes J (R.asg (stepL (stepL L))) q lv nw th e) (hle : Le J K) (hk : RowI K b1 [pAt q]) (hb : RowI K b2 (exC (thenL L).text (nowL L).text 0 (.slice (some ⟨b1, 0, none⟩) 1 1))) : PARes K (asgP R L) b2 lv nw th e := by
 unfold asgP; rw [if_pos ha]
 cases h : R.asg (stepL (stepL L)) with
 | bad e2 => rw [h] at hr; exact hr
 | ok x L1 =>
  rw [h] at hr; obtain ⟨a1, a2, a3, a4, a5, a6⟩ := hr; exact ⟨a1, a2, a3, a4, ⟨asg_op hT ha, _, q, hb, sl_row1 hk (Nat.le_refl _), a5.mono hle⟩, a6.mono hle⟩
theorem asg_else {R : RdA} {L : List Lx} (h : asgB L = false) : asgP R L = choP R L := by
 unfold asgP; rw [if_neg (by rw [h]; simp)]
theorem cho_calls (n d : Nat) (hn : 25 - d = n) (hd : d ≤ 25) (hR : ∀ m, n = m + 1 → LevOk ((d : Int) + 1) (rdA m)) (hS : ∀ m, n = m + 1 → ReadC 163 [.int .i64 0, .int .i64 (d : Int)] (sidP (rdA m) 10)) (b : Nat) (lv : Value) (L : List Lx) (I : Look) (F : List HA) (w0 w : World) (hT : Tk L) (hG : EnvI I) (hsl : Sl I 3 lv ((L.drop 2).map lxC)) (hw0 : St w0 I (row b 222 (rdrC lv (nowL L) (thenL L) 0) :: F) w) : Calls Tryz.prog 145 [pAt b, .int .i64 (d : Int)].toArray w (fun e w' => ∃ v, e = .returned v ∧ ∃ I' H', (Le I I' ∧ ∃ q lv' nw' th' e1, v = pAt q ∧ H' = row b 222 (rdrC lv' nw' th' e1) :: F ∧ PARes I' ((rdA n).cho L) q lv' nw' th' e1) ∧ St w I' H' w') := by
 refine enter Tryz.func145 rfl Tryz.ntmps145 rfl (hw0.self) (trun rfl (t_seq (trun rfl (t_cond rfl (fun hc0 => ?_) (fun hc0 => ?_)))))
 ·simp at hc0
  have hn0 : n = 0 := by omega
  subst hn0; refine tr (l_run 1 rfl (lec rfl rfl rfl rfl (fun w hw => afail_calls b lv (nowL L) (thenL L) 52 _ _ _ w (picks_st1 (row b 222 (rdrC lv (nowL L) (thenL L) 0)) hw)) ?_)); rintro _ _ _ ⟨rfl, q10, rfl, rfl⟩; refine lrun rfl (tret (n_ret1 rfl rfl (fun w' hw => ?_))); exact ⟨_, rfl, I, _, ⟨Le.refl _, _, lv, (nowL L), (thenL L), 52, rfl, rfl, pa_bad rfl (by decide)⟩, hw⟩
 ·simp at hc0
  obtain ⟨m, rfl⟩ : ∃ m, n = m + 1 := ⟨24 - d, by omega⟩; obtain ⟨hA, hC, hO⟩ := hR m rfl
  have hSm := hS m rfl
  refine tskip (tr (l_run 2 rfl (lec rfl rfl rfl rfl (fun w hw => hSm b lv L _ _ _ w hT hG hsl (picks_st1 (row b 222 (rdrC lv (nowL L) (thenL L) 0)) hw)) ?_))); rintro _ J13 _ ⟨hJ13, q13, lv13, nw13, th13, e13, rfl, rfl, hr13⟩; refine lrun rfl (t_seq (tq (s_run 3 rfl (sq rfl (q_ld rfl rfl (by rfl)) ?_)))); refine s_run 2 rfl ?_
  refine s_or2 3 5 19 23 22 _ _ rfl rfl rfl rfl rfl rfl (fun h23 => by
    simp at h23
    refine s_runG 1 rfl (sg rfl (qc rfl rfl rfl ((fun w hw => is_pure b lv13 nw13 th13 e13 [63] w (rowI_of hw)))) (s_runG 1 rfl ?_)); exact s_val rfl
   ) (wanted_n rfl) rfl rfl rfl ?_
  refine sdn (t_cond rfl (fun hc1 => ?_) (fun hc1 => ?_))
  ·have h1 := qn_on hc1
   refine trun rfl (tret (n_ret1 rfl rfl (fun w' hw => ?_))); exact ⟨_, rfl, J13, _, ⟨hJ13, q13, lv13, nw13, th13, e13, rfl, rfl, cho_one hr13 h1⟩, hw⟩
  ·obtain ⟨he, hq⟩ := qn_off hc1; subst he; obtain ⟨x1, L1, hr1, rfl, rfl, hT1, hx1, hsl1⟩ := hr13.t rfl
   have hq1 : isL L1 [63] = true := hq
   refine tskip (tr (l_run 1 rfl (lec rfl rfl rfl rfl (fun w hw => step_L b lv13 L1 0 _ _ _ w hT1 hsl1 (picks_st1 (row b 222 (rdrC lv13 (nowL L1) (thenL L1) 0)) hw)) ?_))); rintro _ _ _ ⟨rfl, rfl, lv26, rfl, hs26⟩; refine lnr1 (l_run 2 rfl (lq rfl (q_add64 rfl rfl rfl (by omega)) ?_)); refine lec rfl rfl rfl rfl (fun w hw => hA b lv26 (stepL L1) _ _ _ w hT1.step (hG.mono hJ13) hs26 (picks_st1 (row b 222 (rdrC lv26 (nowL (stepL L1)) (thenL (stepL L1)) 0)) hw)) ?_; rintro _ J30 _ ⟨hJ30, q30, lv30, nw30, th30, e30, rfl, rfl, hr30⟩; refine lrun rfl (t_seq (tq (s_run 3 rfl (sq rfl (q_ld rfl rfl (by rfl)) ?_)))); refine s_run 2 rfl ?_
   refine s_and2 3 5 36 40 39 _ _ rfl rfl rfl rfl rfl rfl (fun h40 => by
     simp at h40
     refine s_runG 1 rfl (sg rfl (qc rfl rfl rfl ((fun w hw => is_pure b lv30 nw30 th30 e30 [58] w (rowI_of hw)))) (s_runG 1 rfl ?_)); exact s_val rfl
    ) (wanted_n rfl) rfl rfl rfl ?_
   refine sdn (t_cond rfl (fun hc2 => ?_) (fun hc2 => ?_))
   ·obtain ⟨he, hcl⟩ := cl_on hc2; subst he; obtain ⟨x2, L2, hr2, rfl, rfl, hT2, hx2, hsl2⟩ := hr30.t rfl
    have hcl2 : isL L2 [58] = false := hcl
    refine tr (l_run 1 rfl (lec rfl rfl rfl rfl (fun w hw => afail_calls b lv30 (nowL L2) (thenL L2) 60 _ _ _ w (picks_st1 (row b 222 (rdrC lv30 (nowL L2) (thenL L2) 0)) hw)) ?_)); rintro _ _ _ ⟨rfl, q42, rfl, rfl⟩; refine lrun rfl (tret (n_ret1 rfl rfl (fun w' hw => ?_))); exact ⟨_, rfl, J30, _, ⟨(hJ13.trans hJ30), _, lv30, (nowL L2), (thenL L2), 60, rfl, rfl, pa_bad (cho_no hr1 hq1 hr2 hcl2) (by decide)⟩, hw⟩
   ·have h3 := cl_off hc2
    refine tskip (t_seq (tr (l_run 3 rfl (lq rfl (q_ld rfl rfl (by rfl)) ?_)))); refine lrun rfl (t_cond rfl (fun hc3 => ?_) (fun hc3 => ?_))
    ·have he : e30 ≠ 0 := by have := of_decide_eq_true hc3; omega
     refine trun rfl (tret (n_ret1 rfl rfl (fun w' hw => ?_))); exact ⟨_, rfl, J30, _, ⟨(hJ13.trans hJ30), _, lv30, nw30, th30, e30, rfl, rfl, pa_bad (cho_E hr1 hq1 (hr30.f he)) he⟩, hw⟩
    ·have he : e30 = 0 := by have := of_decide_eq_false hc3; omega
     subst he; obtain ⟨x2, L2, hr2, rfl, rfl, hT2, hx2, hsl2⟩ := hr30.t rfl
     have hcl2 : isL L2 [58] = true := h3 rfl
     refine tskip (tr (l_run 1 rfl (lec rfl rfl rfl rfl (fun w hw => step_L b lv30 L2 0 _ _ _ w hT2 hsl2 (picks_st1 (row b 222 (rdrC lv30 (nowL L2) (thenL L2) 0)) hw)) ?_))); rintro _ _ _ ⟨rfl, rfl, lv50, rfl, hs50⟩; refine lnr1 (l_run 4 rfl (lq rfl (q_add64 rfl rfl rfl (by omega)) ?_)); refine lec rfl rfl rfl rfl (fun w hw => hC b lv50 (stepL L2) _ _ _ w hT2.step (hG.mono (hJ13.trans hJ30)) hs50 (picks_st1 (row b 222 (rdrC lv50 (nowL (stepL L2)) (thenL (stepL L2)) 0)) hw)) ?_; rintro _ J56 _ ⟨hJ56, q56, lv56, nw56, th56, e56, rfl, rfl, hr56⟩; refine le rfl (e_buildSliceN (vs := [_, _, _]) (css := [[pAt q13], [pAt q30], [pAt q56]]) rfl un210 ti190 rfl rfl rfl rfl (rfl) (by simp [pcC, chC])) ?_; rintro _ _ _ ⟨b57, rfl, rfl, rfl⟩; refine lq rfl (q_build (pl := [(_, _), (_, _), (_, _), (_, _)]) (cs := (exC [63] [] 0 (.slice (some ⟨b57, 0, none⟩) 3 3)).toArray) rfl un212 ti212 ⟨rfl, ⟨_, _, ti9⟩, rfl, ⟨_, _, ti9⟩, rfl, ⟨_, _, ti2⟩, rfl, ⟨_, _, ti210⟩, trivial⟩ rfl rfl) (le rfl (e_box rfl rfl rfl) ?_); rintro _ _ _ ⟨b59, rfl, rfl, rfl⟩; refine l_freezeRow b57 (fun Ja hJa hka => ?_); refine l_freezeRow b59 (fun Jb hJb hkb => ?_); refine lrun rfl (t_ret (n_ret1 rfl rfl (fun w' hw => ?_))); exact ⟨_, rfl, Jb, _, ⟨(((hJ13.trans hJ30).trans hJ56).trans hJa).trans hJb, b59, lv56, nw56, th56, e56, rfl, rfl, cho_res hr1 hq1 hr2 hcl2 hr56 (hJa.trans hJb) (hx1.mono (((hJ30.trans hJ56).trans hJa).trans hJb)) (hx2.mono ((hJ56.trans hJa).trans hJb)) (RowI.mono hka hJb) hkb⟩, hw⟩
theorem asg_calls (n d : Nat) (hn : 25 - d = n) (hd : d ≤ 25) (hR : ∀ m, n = m + 1 → LevOk ((d : Int) + 1) (rdA m)) (hCd : ∀ m, n = m + 1 → ReadC 145 [.int .i64 (d : Int)] (choP (rdA m))) (b : Nat) (lv : Value) (L : List Lx) (I : Look) (F : List HA) (w0 w : World) (hT : Tk L) (hG : EnvI I) (hsl : Sl I 3 lv ((L.drop 2).map lxC)) (hw0 : St w0 I (row b 222 (rdrC lv (nowL L) (thenL L) 0) :: F) w) : Calls Tryz.prog 120 [pAt b, .int .i64 (d : Int)].toArray w (fun e w' => ∃ v, e = .returned v ∧ ∃ I' H', (Le I I' ∧ ∃ q lv' nw' th' e1, v = pAt q ∧ H' = row b 222 (rdrC lv' nw' th' e1) :: F ∧ PARes I' ((rdA n).asg L) q lv' nw' th' e1) ∧ St w I' H' w') := by
 refine enter Tryz.func120 rfl Tryz.ntmps120 rfl (hw0.self) (trun rfl (t_seq (trun rfl (t_cond rfl (fun hc0 => ?_) (fun hc0 => ?_)))))
 ·simp at hc0
  have hn0 : n = 0 := by omega
  subst hn0; refine tr (l_run 1 rfl (lec rfl rfl rfl rfl (fun w hw => afail_calls b lv (nowL L) (thenL L) 52 _ _ _ w (picks_st1 (row b 222 (rdrC lv (nowL L) (thenL L) 0)) hw)) ?_)); rintro _ _ _ ⟨rfl, q9, rfl, rfl⟩; refine lrun rfl (tret (n_ret1 rfl rfl (fun w' hw => ?_))); exact ⟨_, rfl, I, _, ⟨Le.refl _, _, lv, (nowL L), (thenL L), 52, rfl, rfl, pa_bad rfl (by decide)⟩, hw⟩
 ·simp at hc0
  obtain ⟨m, rfl⟩ : ∃ m, n = m + 1 := ⟨24 - d, by omega⟩; obtain ⟨hA, hC, hO⟩ := hR m rfl
  have hCm := hCd m rfl
  refine tskip (t_seq (tq (s_run 4 rfl (sq rfl (q_ld rfl rfl (by rfl)) ?_)))); refine s_run 2 rfl ?_
  refine s_and2 6 6 16 23 22 _ _ rfl rfl rfl rfl rfl rfl (fun h23 => by
    simp at h23
    refine s_runG 4 rfl (sg rfl (q_ld rfl rfl (by rfl)) ?_); refine s_runG 1 rfl ?_; exact s_val rfl
   ) (wanted_n rfl) rfl rfl rfl ?_
  refine s_run 1 rfl ?_
  refine s_and2 8 14 24 33 32 _ _ rfl rfl rfl rfl rfl rfl (fun h33 => by
    simp at h33
    have hbn := hT.then
    refine s_runG 4 rfl (sg rfl (q_ld rfl rfl (by rfl)) ?_); refine sg rfl (q_cat rfl rfl rfl (by (simp only [List.length_append, List.length_cons, List.length_nil, List.length_take, List.length_drop]; omega))) ?_; refine sg rfl (q_cat rfl rfl rfl (by (simp only [List.length_append, List.length_cons, List.length_nil, List.length_take, List.length_drop]; omega))) ?_; refine sg rfl (qc rfl rfl rfl ((fun w hw => contains_pure asgS ([32] ++ (thenL L).text ++ [32]) w (by decide) (hG.mono hw.le)))) ?_; exact s_val rfl
   ) (wanted_n rfl) rfl rfl rfl ?_
  refine sdn (t_cond rfl (fun hc1 => ?_) (fun hc1 => ?_))
  ·have ha : asgB L = true := asg_on hc1
   refine t_seq (t_draw [11] [] [] mo (by kernel_rfl) (fun _ _ _ _ _ h => h) (r_run [0, 1, 2, 3] (by kernel_rfl) rfl rfl rfl (rq1 4 (by kernel_rfl) rfl rfl (q_ld rfl rfl (by rfl)) ?_))); refine r_run [5, 6, 7, 8] (by kernel_rfl) rfl rfl rfl (rq1 9 (by kernel_rfl) rfl rfl (q_ld rfl rfl (by rfl)) ?_); refine rq1 10 (by kernel_rfl) rfl rfl (q_build (pl := [(_, _), (_, _), (_, _), (_, _)]) (cs := (exC (thenL L).text (nowL L).text 0 nilS).toArray) rfl un212 ti212 ⟨rfl, ⟨_, _, ti9⟩, rfl, ⟨_, _, ti9⟩, rfl, ⟨_, _, ti2⟩, rfl, ⟨_, _, ti210⟩, trivial⟩ rfl rfl) (re 11 (by kernel_rfl) rfl (Le.refl _) rfl (e_box rfl rfl rfl) ?_); rintro _ _ _ ⟨b45, rfl, rfl, rfl⟩; refine ⟨Le.refl _, .inr SubC.sub, ?_⟩; refine r_run [12] (by kernel_rfl) rfl rfl rfl (r_end (by kernel_rfl) (n_then (tr (l_run 1 rfl (lec rfl rfl rfl rfl (fun w hw => step_L b lv L 0 _ _ _ w hT hsl (picks_st1 (row b 222 (rdrC lv (nowL L) (thenL L) 0)) hw)) ?_))))); rintro _ _ _ ⟨rfl, rfl, lv47, rfl, hs47⟩; refine lnr1 (l_run 1 rfl (lec rfl rfl rfl rfl (fun w hw => step_L b lv47 (stepL L) 0 _ _ _ w hT.step hs47 (picks_st1 (row b 222 (rdrC lv47 (nowL (stepL L)) (thenL (stepL L)) 0)) hw)) ?_)); rintro _ _ _ ⟨rfl, rfl, lv49, rfl, hs49⟩; refine lnr1 (l_run 3 rfl (lq rfl (q_add64 rfl rfl rfl (by omega)) ?_)); refine lec rfl rfl rfl rfl (fun w hw => hA b lv49 (stepL (stepL L)) _ _ _ w hT.step.step hG hs49 (picks_st1 (row b 222 (rdrC lv49 (nowL (stepL (stepL L))) (thenL (stepL (stepL L))) 0)) hw)) ?_
   rintro _ J54 _ ⟨hJ54, q54, lv54, nw54, th54, e54, rfl, rfl, hr54⟩; refine le rfl (e_buildSlice1 rfl un210 ti190 rfl rfl rfl (by exact One.cells ⟨rfl, rfl⟩) rfl) ?_; rintro _ _ _ ⟨b55, rfl, rfl, rfl⟩; refine l_run 2 rfl ?_; refine l_e0 rfl rfl (e_storeS rfl ti210 rfl rfl (by exact ⟨rfl, rfl⟩) rfl (by rfl)) ?_; rintro _ _ _ ⟨rfl, rfl⟩; refine l_heap (H' := row b45 212 (exC (thenL L).text (nowL L).text 0 (.slice (some ⟨b55, 0, none⟩) 1 1)) :: _) ?_ (fun _ h => h); refine lnt (t_freezeRow b55 (fun Ja hJa hka => ?_)); refine t_freezeRow b45 (fun Jb hJb hkb => ?_); refine t_region (lrun rfl (tret (n_ret1 rfl rfl (fun w' hw => ?_)))); exact ⟨_, rfl, Jb, _, ⟨(hJ54.trans hJa).trans hJb, b45, lv54, nw54, th54, e54, rfl, rfl, asg_res hT ha hr54 (hJa.trans hJb) (RowI.mono hka hJb) hkb⟩, hw⟩
  ·have ha : asgB L = false := asg_on hc1
   refine tskip (tr (l_run 2 rfl (lec rfl rfl rfl rfl (fun w hw => hCm b lv L _ _ _ w hT hG hsl (picks_st1 (row b 222 (rdrC lv (nowL L) (thenL L) 0)) hw)) ?_))); rintro _ J61 _ ⟨hJ61, q61, lv61, nw61, th61, e61, rfl, rfl, hr61⟩; refine lrun rfl (t_ret (n_ret1 rfl rfl (fun w' hw => ?_))); exact ⟨_, rfl, J61, _, ⟨hJ61, q61, lv61, nw61, th61, e61, rfl, rfl, by rw [show (rdA (m + 1)).asg L = asgP (rdA m) L from rfl, asg_else ha]; exact hr61⟩, hw⟩
theorem lev_all : ∀ (n d : Nat), 25 - d = n → d ≤ 25 → LevOk (d : Int) (rdA n) := by
 intro n
 induction n with
 | zero =>
  intro d hn hd
  exact ⟨fun b lv L I F w0 w hT hG hsl hw0 => asg_calls 0 d hn hd (fun m h => by cases h) (fun m h => by cases h) b lv L I F w0 w hT hG hsl hw0,
   fun b lv L I F w0 w hT hG hsl hw0 => cho_calls 0 d hn hd (fun m h => by cases h) (fun m h => by cases h) b lv L I F w0 w hT hG hsl hw0,
   fun b lv L I F w0 w hT hG hsl hw0 => opd_calls 0 d hn hd (fun m h => by cases h) b lv L I F w0 w hT hG hsl hw0⟩
 | succ n ih =>
  intro d hn hd
  have hR : ∀ m, n + 1 = m + 1 → LevOk ((d : Int) + 1) (rdA m) := fun m h => by
   cases h
   exact ih (d + 1) (by omega) (by omega)
  have hO : ReadC 171 [.int .i64 (d : Int)] (opdP (rdA n)) := fun b lv L I F w0 w hT hG hsl hw0 => opd_calls (n + 1) d hn hd hR b lv L I F w0 w hT hG hsl hw0
  have hS : ∀ m, n + 1 = m + 1 → ReadC 163 [.int .i64 0, .int .i64 (d : Int)] (sidP (rdA m) 10) := fun m h => by
   cases h
   exact sid_all n d hd hO 10 (Nat.le_refl _)
  have hC : ReadC 145 [.int .i64 (d : Int)] (choP (rdA n)) := fun b lv L I F w0 w hT hG hsl hw0 => cho_calls (n + 1) d hn hd hR hS b lv L I F w0 w hT hG hsl hw0
  exact ⟨fun b lv L I F w0 w hT hG hsl hw0 => asg_calls (n + 1) d hn hd hR (fun m h => by cases h; exact hC) b lv L I F w0 w hT hG hsl hw0, hC, hO⟩
end Go.Tri

/-
 A text as a tree; signs of two sides.
-/
namespace Go.Tri
open Go.Proofs Go.RowKit
set_option maxRecDepth 10000
/-- what reading tells -/
def RRel (J : Look) (r : RA) (q e : Nat) : Prop := match r with
 | .ok x => e = 0 ∧ ExAt J x q
 | .bad e2 => e = e2 ∧ e ≠ 0
theorem RRel.t {J : Look} {r : RA} {q e : Nat} (h : RRel J r q e) (he : e = 0) : ∃ x, r = .ok x ∧ ExAt J x q := by
 cases r with
 | ok x => exact ⟨x, rfl, h.2⟩
 | bad e2 => exact absurd he h.2
theorem RRel.f {J : Look} {r : RA} {q e : Nat} (h : RRel J r q e) (he : e ≠ 0) : r = .bad e := by
 cases r with
 | ok x => exact absurd h.1 he
 | bad e2 => rw [h.1]
theorem tk_init {L : List Lx} (h : Tk L) : nth (L.drop 1) 0 (nth L 0 lx0) = thenL L := by
 rw [thenL, nth_drop1]
 split
 ·rename_i h1
  unfold nth
  rw [List.getD_eq_getElem?_getD, List.getElem?_eq_none (by omega)]; rfl
 ·have := h.pos
  rw [nth_eq (show 0 + 1 < L.length by omega), nth_eq (show 1 < L.length by omega)]
theorem aread_end {s : List UInt8} {x : Ex} {L : List Lx} (hb : Lib.trimS s blS ≠ []) (hr : (rdA 25).asg (lexL s) = .ok x L) : readA s = if (nowL L).what = 0 then .ok x else .bad 60 := by
 unfold readA; rw [if_neg hb, hr]
theorem read_E {s : List UInt8} {e : Nat} (hb : Lib.trimS s blS ≠ []) (hr : (rdA 25).asg (lexL s) = .bad e) : readA s = .bad e := by
 unfold readA; rw [if_neg hb, hr]
theorem en_on {e1 : Nat} {x : Lx} (h : (decide ((e1 : Int) = 0) && decide ((x.what : Int) ≠ 0)) = true) : e1 = 0 ∧ x.what ≠ 0 := by
 simp only [Bool.and_eq_true, decide_eq_true_eq] at h; exact ⟨by omega, by have := h.2; omega⟩
theorem en_off {e1 : Nat} {x : Lx} (h : (decide ((e1 : Int) = 0) && decide ((x.what : Int) ≠ 0)) = false) : e1 = 0 → x.what = 0 := fun he => by
 subst he; rw [Bool.and_eq_false_iff, decide_eq_false_iff_not, decide_eq_false_iff_not] at h; rcases h with h | h
 ·exact absurd rfl h
 ·omega
theorem read_rel {J : Look} {s : List UInt8} {q : Nat} {lv : Value} {nw th : Lx} {e : Nat} (hb : Lib.trimS s blS ≠ []) (hr : PARes J ((rdA 25).asg (lexL s)) q lv nw th e) (h : e = 0 → nw.what = 0) : RRel J (readA s) q e := by
 by_cases he : e = 0
 ·obtain ⟨x, L, h1, h2, _, _, h5, _⟩ := hr.t he; rw [aread_end hb h1, if_pos (by rw [← h2]; exact h he)]; exact ⟨he, h5⟩
 ·rw [read_E hb (hr.f he)]; exact ⟨rfl, he⟩
theorem aread_calls (s : List UInt8) (I : Look) (F : List HA) (w0 w : World) (hs : s.length ≤ 900000000) (hG : EnvI I) (hw0 : St w0 I F w) : Calls Tryz.prog 99 [str s].toArray w (fun e w' => ∃ v, e = .returned v ∧ ∃ I' H', (Le I I' ∧ F = H' ∧ ∃ q e1 : Nat, v = .tuple #[pAt q, .int .i64 (e1 : Int)] ∧ RRel I' (readA s) q e1) ∧ St w I' H' w') := by
 have hTk := lexL_tk hs
 refine enter Tryz.func99 rfl Tryz.ntmps99 rfl (hw0.self) (trun rfl (t_seq (tr (l_run 1 rfl (lq rfl (qc rfl rfl rfl ((fun w _ => trimB_pure s blS w (by omega) (by decide) (by decide)))) ?_))))); refine lq rfl (q_eql_str rfl rfl rfl) (ln (t_cond rfl (fun hc0 => ?_) (fun hc0 => ?_)))
 ·have hb : Lib.trimS s blS = [] := of_decide_eq_true hc0
  refine tr (lq rfl (q_build (pl := [(_, _), (_, _), (_, _), (_, _)]) (cs := (exC [] [] 0 nilS).toArray) rfl un212 ti212 ⟨rfl, ⟨_, _, ti9⟩, rfl, ⟨_, _, ti9⟩, rfl, ⟨_, _, ti2⟩, rfl, ⟨_, _, ti210⟩, trivial⟩ rfl rfl) (le rfl (e_box rfl rfl rfl) ?_)); rintro _ _ _ ⟨b10, rfl, rfl, rfl⟩; refine l_freezeRow b10 (fun J hJ hk => ?_); refine lrun rfl (tret (n_ret2 rfl rfl rfl (fun w' hw => ?_))); refine ⟨_, rfl, J, _, ⟨hJ, rfl, b10, 0, rfl, ?_⟩, hw⟩; unfold readA; rw [if_pos hb]; exact ⟨rfl, hk⟩
 ·have hb : Lib.trimS s blS ≠ [] := of_decide_eq_false hc0
  refine tskip (tr (l_run 1 rfl (lec rfl rfl rfl rfl (fun w hw => lexemes_calls s _ _ _ w hw) ?_))); rintro _ J12 _ ⟨hJ12, rfl, b12, rfl, hb12⟩; refine lec rfl rfl rfl rfl (fun w hw => collect_calls s b12 _ _ _ w hs (hG.mono hJ12) hb12 hw) ?_; rintro v13 J13 _ ⟨hJ13, rfl, hv13⟩; refine lq rfl (q_build (pl := [(_, _), (_, _), (_, _), (_, _)]) (cs := (rdrC v13 lx0 lx0 0).toArray) rfl un222 ti222 ⟨rfl, ⟨_, _, ti214⟩, rfl, ⟨_, _, ti217⟩, rfl, ⟨_, _, ti217⟩, rfl, ⟨_, _, ti28⟩, trivial⟩ rfl (by obtain ⟨A, c, h⟩ := Sl.lenOf hv13 rfl; rw [h]; rfl)) ?_; refine le rfl (e_box rfl rfl rfl) ?_; rintro _ _ _ ⟨b15, rfl, rfl, rfl⟩; refine lrun rfl (tr (l_run 1 rfl (lec rfl rfl rfl rfl (fun w hw => step_calls b15 v13 lx0 lx0 0 (lexL s) _ _ _ w hv13 (picks_st1 (row b15 222 (rdrC v13 lx0 lx0 0)) hw)) ?_))); rintro _ _ _ ⟨rfl, rfl, lv17, rfl, hs17⟩; refine lnr1 (l_run 1 rfl (lec rfl rfl rfl rfl (fun w hw => step_calls b15 lv17 lx0 (nth (lexL s) 0 lx0) 0 ((lexL s).drop 1) _ _ _ w hs17 (picks_st1 (row b15 222 (rdrC lv17 lx0 (nth (lexL s) 0 lx0) 0)) hw)) ?_)); rintro _ _ _ ⟨rfl, rfl, lv19, rfl, hs19⟩; rw [tk_init hTk] at *; rw [show nth (lexL s) 0 lx0 = nowL (lexL s) from rfl]; rw [List.drop_drop] at hs19; refine lnr1 (l_run 1 rfl (lec rfl rfl rfl rfl (fun w hw => (lev_all 25 0 rfl (by decide)).1 b15 lv19 (lexL s) _ _ _ w hTk (hG.mono (hJ12.trans hJ13)) hs19 (picks_st1 (row b15 222 (rdrC lv19 (nowL (lexL s)) (thenL (lexL s)) 0)) hw)) ?_))
  rintro _ J21 _ ⟨hJ21, q21, lv21, nw21, th21, e21, rfl, rfl, hr21⟩; refine lrun rfl (t_seq (tq (s_run 3 rfl (sq rfl (q_ld rfl rfl (by rfl)) ?_)))); refine s_run 2 rfl ?_
  refine s_and2 6 5 27 34 33 _ _ rfl rfl rfl rfl rfl rfl (fun h34 => by
    simp at h34
    refine s_runG 4 rfl (sg rfl (q_ld rfl rfl (by rfl)) ?_); refine s_runG 1 rfl ?_; exact s_val rfl
   ) (wanted_n rfl) rfl rfl rfl ?_
  refine sdn (t_cond rfl (fun hc1 => ?_) (fun hc1 => ?_))
  ·obtain ⟨he, hnw⟩ := en_on hc1; subst he; obtain ⟨x2, L2, hr2, rfl, rfl, hT2, hx2, hsl2⟩ := hr21.t rfl
   have hrd := aread_end hb hr2
   rw [if_neg hnw] at hrd; refine t_region (l_run 1 rfl (lec rfl rfl rfl rfl (fun w hw => afail_calls b15 lv21 (nowL L2) (thenL L2) 60 _ _ _ w (picks_st1 (row b15 222 (rdrC lv21 (nowL L2) (thenL L2) 0)) hw)) ?_)); rintro _ _ _ ⟨rfl, q36, rfl, rfl⟩; refine lnt (t_qdraw mo (by kernel_rfl) (fun _ _ _ _ _ h => h) (s_run 4 rfl (sq rfl (q_ld rfl rfl (by rfl)) ?_))); refine s_run 2 rfl (sdn (t_ret (n_ret2 rfl rfl rfl (fun w' hw => ?_)))); refine ⟨_, rfl, J21, _, ⟨(hJ12.trans hJ13).trans hJ21, rfl, q21, 60, rfl, ?_⟩, subC_st hw⟩; rw [hrd]; exact ⟨rfl, by decide⟩
  ·have h3 := en_off hc1
   refine tskip (t_seq (t_qdraw mo (by kernel_rfl) (fun _ _ _ _ _ h => h) (s_run 4 rfl (sq rfl (q_ld rfl rfl (by rfl)) ?_)))); refine s_run 2 rfl (sdn (t_ret (n_ret2 rfl rfl rfl (fun w' hw => ?_)))); refine ⟨_, rfl, J21, _, ⟨(hJ12.trans hJ13).trans hJ21, rfl, q21, e21, rfl, ?_⟩, subC_st hw⟩; exact read_rel hb hr21 h3
theorem truth_pure (c : Bool) (w : World) : Pure Tryz.prog 124 [.bool c] w (.int .i64 (trI c)) := by
 refine enter Tryz.func124 rfl Tryz.ntmps124 rfl (St.start w (look w) (Le.refl _)) (trun rfl (t_seq (trun rfl (t_cond rfl (fun hc0 => ?_) (fun hc0 => ?_)))))
 ·refine trun rfl (tret (n_ret1 rfl rfl (fun w' hw => ?_))); refine ⟨?_, hw.below⟩
  rw [hc0]; rfl
 ·refine tskip (trun rfl (t_ret (n_ret1 rfl rfl (fun w' hw => ?_)))); refine ⟨?_, hw.below⟩
  rw [hc0]; rfl
theorem two_pure (op : List UInt8) (a b : Int) (w : World) : Pure Tryz.prog 125 [str op, .int .i64 a, .int .i64 b] w (.tuple #[.int .i64 (twoP op a b).1, .int .i64 ((twoP op a b).2 : Int)]) := by
 have h63 := (and63 b).1
 refine enter Tryz.func125 rfl Tryz.ntmps125 rfl (St.start w (look w) (Le.refl _)) (trun rfl (t_seq (trun rfl (t_block (tr (lq rfl (q_eql_str rfl rfl rfl) (lrun rfl (t_cond rfl (fun hc0 => ?_) (fun hc0 => ?_)))))))))
 ·simp only [decide_eq_true_eq, decide_eq_false_iff_not] at hc0; refine tr (l_run 2 rfl (lq rfl (q_or rfl rfl rfl) (lrun rfl (tret (n_ret2 rfl rfl rfl (fun w' hw => ?_)))))); refine ⟨?_, hw.below⟩; rw [twoP, if_pos hc0]
  rfl
 ·simp only [decide_eq_true_eq, decide_eq_false_iff_not] at hc0; refine tr (lq rfl (q_eql_str rfl rfl rfl) (lrun rfl (t_cond rfl (fun hc1 => ?_) (fun hc1 => ?_))))
  ·simp only [decide_eq_true_eq, decide_eq_false_iff_not] at hc1; refine tr (l_run 2 rfl (lq rfl (q_xor rfl rfl rfl) (lrun rfl (tret (n_ret2 rfl rfl rfl (fun w' hw => ?_)))))); refine ⟨?_, hw.below⟩; rw [twoP, if_neg hc0, if_pos hc1]
   rfl
  ·simp only [decide_eq_true_eq, decide_eq_false_iff_not] at hc1; refine tr (lq rfl (q_eql_str rfl rfl rfl) (lrun rfl (t_cond rfl (fun hc2 => ?_) (fun hc2 => ?_))))
   ·simp only [decide_eq_true_eq, decide_eq_false_iff_not] at hc2; refine tr (l_run 2 rfl (lq rfl (q_and rfl rfl rfl) (lrun rfl (tret (n_ret2 rfl rfl rfl (fun w' hw => ?_)))))); refine ⟨?_, hw.below⟩; rw [twoP, if_neg hc0, if_neg hc1, if_pos hc2]
    rfl
   ·simp only [decide_eq_true_eq, decide_eq_false_iff_not] at hc2; refine tr (lq rfl (q_eql_str rfl rfl rfl) (lrun rfl (t_cond rfl (fun hc3 => ?_) (fun hc3 => ?_))))
    ·simp only [decide_eq_true_eq, decide_eq_false_iff_not] at hc3; refine tr (l_run 2 rfl (lq rfl (q_and rfl rfl rfl) (lq rfl (q_shl rfl rfl rfl h63) (lrun rfl (tret (n_ret2 rfl rfl rfl (fun w' hw => ?_))))))); refine ⟨?_, hw.below⟩; rw [twoP, if_neg hc0, if_neg hc1, if_neg hc2, if_pos hc3]
     rfl
    ·simp only [decide_eq_true_eq, decide_eq_false_iff_not] at hc3; refine tr (lq rfl (q_eql_str rfl rfl rfl) (lrun rfl (t_cond rfl (fun hc4 => ?_) (fun hc4 => ?_))))
     ·simp only [decide_eq_true_eq, decide_eq_false_iff_not] at hc4; refine tr (l_run 2 rfl (lq rfl (q_and rfl rfl rfl) (lq rfl (q_shr rfl rfl rfl h63) (lrun rfl (tret (n_ret2 rfl rfl rfl (fun w' hw => ?_))))))); refine ⟨?_, hw.below⟩; rw [twoP, if_neg hc0, if_neg hc1, if_neg hc2, if_neg hc3, if_pos hc4]
      rfl
     ·simp only [decide_eq_true_eq, decide_eq_false_iff_not] at hc4; refine tr (lq rfl (q_eql_str rfl rfl rfl) (lrun rfl (t_cond rfl (fun hc5 => ?_) (fun hc5 => ?_))))
      ·simp only [decide_eq_true_eq, decide_eq_false_iff_not] at hc5; refine tr (l_run 2 rfl (lq rfl (q_add rfl rfl rfl) (lrun rfl (tret (n_ret2 rfl rfl rfl (fun w' hw => ?_)))))); refine ⟨?_, hw.below⟩; rw [twoP, if_neg hc0, if_neg hc1, if_neg hc2, if_neg hc3, if_neg hc4, if_pos hc5]
       rfl
      ·simp only [decide_eq_true_eq, decide_eq_false_iff_not] at hc5; refine tr (lq rfl (q_eql_str rfl rfl rfl) (lrun rfl (t_cond rfl (fun hc6 => ?_) (fun hc6 => ?_))))
       ·simp only [decide_eq_true_eq, decide_eq_false_iff_not] at hc6; refine tr (l_run 2 rfl (lq rfl (q_sub rfl rfl rfl) (lrun rfl (tret (n_ret2 rfl rfl rfl (fun w' hw => ?_)))))); refine ⟨?_, hw.below⟩; rw [twoP, if_neg hc0, if_neg hc1, if_neg hc2, if_neg hc3, if_neg hc4, if_neg hc5, if_pos hc6]
        rfl
       ·simp only [decide_eq_true_eq, decide_eq_false_iff_not] at hc6; refine tr (lq rfl (q_eql_str rfl rfl rfl) (lrun rfl (t_cond rfl (fun hc7 => ?_) (fun hc7 => ?_))))
        ·simp only [decide_eq_true_eq, decide_eq_false_iff_not] at hc7; refine tr (l_run 2 rfl (lq rfl (q_mul rfl rfl rfl) (lrun rfl (tret (n_ret2 rfl rfl rfl (fun w' hw => ?_)))))); refine ⟨?_, hw.below⟩; rw [twoP, if_neg hc0, if_neg hc1, if_neg hc2, if_neg hc3, if_neg hc4, if_neg hc5, if_neg hc6, if_pos hc7]
         rfl
        ·simp only [decide_eq_true_eq, decide_eq_false_iff_not] at hc7; refine t_cutE (ι := Unit) (fun _ => True) (fun _ => [(51, .bool (decide (op = [47] ∨ op = [37])))]) [(0, _), (1, _), (2, _), (6, _), (7, _), (8, _), (9, _), (14, _), (19, _), (24, _), (30, _), (36, _), (41, _), (46, _)] (fun _ => look w) (fun _ => []) (sub_rfl rfl) ?_ ?_
         ·refine tr (lq rfl (q_eql_str rfl rfl rfl) (lrun rfl (t_cond rfl (fun hc8 => ?_) (fun hc8 => ?_))))
          ·refine t_skip (n_cut (()) ?_ (sub_cons' rfl (by rw [hc8, decide_eq_true (Or.inl (of_decide_eq_true hc8))]) (sub_nil)) (sub_rfl rfl) (fun _ h => by dsimp only; exact subC_st h))
           ·trivial
          ·refine t_region (lq rfl (q_eql_str rfl rfl rfl) (l_runA rfl (n_cut (()) ?_ (sub_cons' rfl (congrArg Value.bool (by rw [show (decide (op = [47] ∨ op = [37])) = decide (op = [37]) from by rw [decide_eq_decide]; exact ⟨fun h => h.resolve_left (of_decide_eq_false hc8), Or.inr⟩])) (sub_nil)) (sub_rfl rfl) (fun _ h => by dsimp only; exact subC_st h))))
           ·trivial
         rintro _ _; refine t_cond rfl (fun hc9 => ?_) (fun hc9 => ?_)
         ·have hor : (op = [47] ∨ op = [37]) := of_decide_eq_true hc9
          refine t_seq (t_block (trun rfl (t_cond rfl (fun hc10 => ?_) (fun hc10 => ?_))))
          ·simp only [decide_eq_true_eq, decide_eq_false_iff_not] at hc10; refine trun rfl (tret (n_ret2 rfl rfl rfl (fun w' hw => ?_))); refine ⟨?_, hw.below⟩; rw [twoP, if_neg hc0, if_neg hc1, if_neg hc2, if_neg hc3, if_neg hc4, if_neg hc5, if_neg hc6, if_neg hc7, if_pos hor, if_pos hc10]
           rfl
          ·simp only [decide_eq_true_eq, decide_eq_false_iff_not] at hc10
           have hb0 : ¬ b = 0 := hc10
           refine tq (s_run 3 rfl ?_)
           refine s_and2 2 2 60 63 62 _ _ rfl rfl rfl rfl rfl rfl (fun h63 => by
             simp at h63
             refine s_runG 2 rfl ?_; exact s_val rfl
            ) (wanted_n rfl) rfl rfl rfl ?_
           refine s_run 1 rfl ?_
           refine s_and2 2 6 64 67 66 _ _ rfl rfl rfl rfl rfl rfl (fun h67 => by
             simp at h67
             refine s_runG 1 rfl (sg rfl (q_eql_str rfl rfl rfl) ?_); exact s_val rfl
            ) (wanted_n rfl) rfl rfl rfl ?_
           refine s_run 1 rfl (sdn (t_cond rfl (fun hc11 => ?_) (fun hc11 => ?_)))
           ·have hb0 : ¬ b = 0 := hb0
            have h11 : a = -9223372036854775808 ∧ b = -1 ∧ op = [47] := by
             simp only [Bool.and_eq_true, decide_eq_true_eq] at hc11; exact ⟨hc11.1.1, hc11.1.2, hc11.2⟩
            refine trun rfl (tret (n_ret2 rfl rfl rfl (fun w' hw => ?_))); refine ⟨?_, hw.below⟩; rw [twoP, if_neg hc0, if_neg hc1, if_neg hc2, if_neg hc3, if_neg hc4, if_neg hc5, if_neg hc6, if_neg hc7, if_pos hor, if_neg hb0, if_pos h11]
            rfl
           ·have h11 : ¬ (a = -9223372036854775808 ∧ b = -1 ∧ op = [47]) := fun ⟨h1, h2, h3⟩ => by
             have h : ((decide (a = -9223372036854775808) && decide (b = -1)) && decide (op = [47])) = false := hc11
             rw [decide_eq_true h1, decide_eq_true h2, decide_eq_true h3] at h
             cases h
            refine tq (s_run 3 rfl ?_)
            refine s_and2 2 2 72 75 74 _ _ rfl rfl rfl rfl rfl rfl (fun h75 => by
              simp at h75
              refine s_runG 1 rfl (sg rfl (q_eql_str rfl rfl rfl) ?_); exact s_val rfl
             ) (wanted_n rfl) rfl rfl rfl ?_
            refine s_run 1 rfl (sdn (t_cond rfl (fun hc12 => ?_) (fun hc12 => ?_)))
            ·have h12 : b = -1 ∧ op = [37] := by
              simp only [Bool.and_eq_true, decide_eq_true_eq] at hc12; exact hc12
             refine trun rfl (tret (n_ret2 rfl rfl rfl (fun w' hw => ?_))); refine ⟨?_, hw.below⟩; rw [twoP, if_neg hc0, if_neg hc1, if_neg hc2, if_neg hc3, if_neg hc4, if_neg hc5, if_neg hc6, if_neg hc7, if_pos hor, if_neg hb0, if_neg h11, if_pos h12]
             rfl
            ·have h12 : ¬ (b = -1 ∧ op = [37]) := fun ⟨h1, h2⟩ => by
              have h : (decide (b = -1) && decide (op = [37])) = false := hc12
              rw [decide_eq_true h1, decide_eq_true h2] at h
              cases h
             refine tr (l_run 1 rfl (lq rfl (q_eql_str rfl rfl rfl) (lrun rfl (t_cond rfl (fun hc13 => ?_) (fun hc13 => ?_)))))
             ·simp only [decide_eq_true_eq, decide_eq_false_iff_not] at hc13
              have h13 : op = [47] := hc13
              refine tr (l_run 2 rfl (lq rfl (q_quo rfl rfl rfl hb0) (lrun rfl (tret (n_ret2 rfl rfl rfl (fun w' hw => ?_)))))); refine ⟨?_, hw.below⟩; rw [twoP, if_neg hc0, if_neg hc1, if_neg hc2, if_neg hc3, if_neg hc4, if_neg hc5, if_neg hc6, if_neg hc7, if_pos hor, if_neg hb0, if_neg h11, if_neg h12, if_pos h13]
              rfl
             ·simp only [decide_eq_true_eq, decide_eq_false_iff_not] at hc13
              have h13 : ¬ op = [47] := hc13
              refine t_skip (n_block (n_then (tr (l_run 2 rfl (lq rfl (q_rem rfl rfl rfl hb0) (lrun rfl (tret (n_ret2 rfl rfl rfl (fun w' hw => ?_))))))))); refine ⟨?_, hw.below⟩; rw [twoP, if_neg hc0, if_neg hc1, if_neg hc2, if_neg hc3, if_neg hc4, if_neg hc5, if_neg hc6, if_neg hc7, if_pos hor, if_neg hb0, if_neg h11, if_neg h12, if_neg h13]
              rfl
         ·have hor : ¬ (op = [47] ∨ op = [37]) := of_decide_eq_false hc9
          refine tr (lq rfl (q_eql_str rfl rfl rfl) (lrun rfl (t_cond rfl (fun hc14 => ?_) (fun hc14 => ?_))))
          ·simp only [decide_eq_true_eq, decide_eq_false_iff_not] at hc14; refine tr (l_run 3 rfl (lq rfl (qc rfl rfl rfl ((fun w _ => truth_pure _ w))) (lrun rfl (tret (n_ret2 rfl rfl rfl (fun w' hw => ?_)))))); refine ⟨?_, hw.below⟩; rw [twoP, if_neg hc0, if_neg hc1, if_neg hc2, if_neg hc3, if_neg hc4, if_neg hc5, if_neg hc6, if_neg hc7, if_neg hor, if_pos hc14]
           rfl
          ·simp only [decide_eq_true_eq, decide_eq_false_iff_not] at hc14; refine tr (lq rfl (q_eql_str rfl rfl rfl) (lrun rfl (t_cond rfl (fun hc15 => ?_) (fun hc15 => ?_))))
           ·simp only [decide_eq_true_eq, decide_eq_false_iff_not] at hc15; refine tr (l_run 3 rfl (lq rfl (qc rfl rfl rfl ((fun w _ => truth_pure _ w))) (lrun rfl (tret (n_ret2 rfl rfl rfl (fun w' hw => ?_)))))); refine ⟨?_, hw.below⟩; rw [twoP, if_neg hc0, if_neg hc1, if_neg hc2, if_neg hc3, if_neg hc4, if_neg hc5, if_neg hc6, if_neg hc7, if_neg hor, if_neg hc14, if_pos hc15]
            rfl
           ·simp only [decide_eq_true_eq, decide_eq_false_iff_not] at hc15; refine tr (lq rfl (q_eql_str rfl rfl rfl) (lrun rfl (t_cond rfl (fun hc16 => ?_) (fun hc16 => ?_))))
            ·simp only [decide_eq_true_eq, decide_eq_false_iff_not] at hc16; refine tr (l_run 3 rfl (lq rfl (qc rfl rfl rfl ((fun w _ => truth_pure _ w))) (lrun rfl (tret (n_ret2 rfl rfl rfl (fun w' hw => ?_)))))); refine ⟨?_, hw.below⟩; rw [twoP, if_neg hc0, if_neg hc1, if_neg hc2, if_neg hc3, if_neg hc4, if_neg hc5, if_neg hc6, if_neg hc7, if_neg hor, if_neg hc14, if_neg hc15, if_pos hc16]
             rfl
            ·simp only [decide_eq_true_eq, decide_eq_false_iff_not] at hc16; refine tr (lq rfl (q_eql_str rfl rfl rfl) (lrun rfl (t_cond rfl (fun hc17 => ?_) (fun hc17 => ?_))))
             ·simp only [decide_eq_true_eq, decide_eq_false_iff_not] at hc17; refine tr (l_run 3 rfl (lq rfl (qc rfl rfl rfl ((fun w _ => truth_pure _ w))) (lrun rfl (tret (n_ret2 rfl rfl rfl (fun w' hw => ?_)))))); refine ⟨?_, hw.below⟩; rw [twoP, if_neg hc0, if_neg hc1, if_neg hc2, if_neg hc3, if_neg hc4, if_neg hc5, if_neg hc6, if_neg hc7, if_neg hor, if_neg hc14, if_neg hc15, if_neg hc16, if_pos hc17]
              rfl
             ·simp only [decide_eq_true_eq, decide_eq_false_iff_not] at hc17; refine tr (lq rfl (q_eql_str rfl rfl rfl) (lrun rfl (t_cond rfl (fun hc18 => ?_) (fun hc18 => ?_))))
              ·simp only [decide_eq_true_eq, decide_eq_false_iff_not] at hc18; refine tr (l_run 3 rfl (lq rfl (qc rfl rfl rfl ((fun w _ => truth_pure _ w))) (lrun rfl (tret (n_ret2 rfl rfl rfl (fun w' hw => ?_)))))); refine ⟨?_, hw.below⟩; rw [twoP, if_neg hc0, if_neg hc1, if_neg hc2, if_neg hc3, if_neg hc4, if_neg hc5, if_neg hc6, if_neg hc7, if_neg hor, if_neg hc14, if_neg hc15, if_neg hc16, if_neg hc17, if_pos hc18]
               rfl
              ·simp only [decide_eq_true_eq, decide_eq_false_iff_not] at hc18; refine t_skip (n_block (n_then (tr (l_run 3 rfl (lq rfl (qc rfl rfl rfl ((fun w _ => truth_pure _ w))) (lrun rfl (t_ret (n_ret2 rfl rfl rfl (fun w' hw => ?_))))))))); refine ⟨?_, hw.below⟩; rw [twoP, if_neg hc0, if_neg hc1, if_neg hc2, if_neg hc3, if_neg hc4, if_neg hc5, if_neg hc6, if_neg hc7, if_neg hor, if_neg hc14, if_neg hc15, if_neg hc16, if_neg hc17, if_neg hc18]
               rfl
end Go.Tri

/-
 Variables sought.
-/
namespace Go.Tri
open Go.Proofs Go.RowKit
set_option maxRecDepth 10000
theorem backward_iter (S : List Ass) (v : Value) (b1 : Nat) (I0 : Look) (hs : S.length ≤ 1000000000) (hv : Sl I0 2 v (S.map asC)) : Iterates Tryz.prog 165 [.pointer (some ⟨b1, 0, none⟩)] (bwS S) (fun I => CellI I b1 0 v ∧ Le I0 I) := by
 intro γ Cd Cx G II lid hY w0 g00 F w hcd0 hpre hw0; obtain ⟨hb1, hle0⟩ := hpre
 have hJ := Le.refl (II g00)
 refine enter Tryz.func165 rfl Tryz.ntmps165 rfl (hw0.self) (tr (lq rfl ((by exact q_ldr rfl rfl (rd_imm (hb1.mono hJ)))) ?_)); refine lq rfl ((by exact q_len rfl un161 rfl (Sl.lenOf hv (List.length_map _)))) ?_; refine lq rfl (q_sub64 rfl rfl rfl (by omega)) ?_; refine lrun rfl (t_block (t_loopE (ι := Nat × γ) (fun zz => zz.1 ≤ S.length ∧ Cd zz.1 zz.2 ∧ Le (II g00) (II zz.2)) (fun zz => S.length - zz.1) (fun zz => [(3, .int .i64 ((S.length : Int) - 1 - (zz.1 : Int)))]) [(0, _), (1, _)] (fun zz => (II zz.2)) (fun zz => (F ++ G zz.2)) (0, g00) ?_ (sub_cons' rfl (congrArg (Value.int IntKind.i64) (by simp)) (sub_nil)) (sub_rfl rfl) (fun _ h => subC_st h) ?_))
 ·dsimp only; exact ⟨Nat.zero_le _, hcd0, Le.refl _⟩
 rintro ⟨nn, g⟩ ⟨hn, hcd, hJ⟩; dsimp only at *; refine t_seq (trun rfl (t_cond rfl (fun hc0 => ?_) (fun hc0 => ?_)))
 ·simp at hc0
  have hn1 : nn < S.length := by omega
  have hcs : ((S.length : Int) - 1 - (nn : Int)) = ((S.length - 1 - nn : Nat) : Int) := by omega
  rw [hcs]; refine tskip (t_seq (t_block (tr (l_run 2 rfl (lq rfl ((by exact q_ldr rfl rfl (rd_imm (hb1.mono hJ)))) ?_))))); refine l_run 1 rfl ?_; refine lq rfl ((by exact q_indexAddrN rfl un161 ti166 rfl rfl (Sl.shape hv (List.length_map _)) (by omega))) ?_; refine lq rfl ((by exact q_load_agg rfl un166 ti166 rfl rfl (rds_as (i := S.length - 1 - nn) (hv.mono (hle0.trans hJ)) (by omega)))) ?_; refine l_yield (i := nn) g (wanted_n rfl) rfl rfl rfl rfl rfl hY (bwS_at hn1) hcd rfl (fun g hcd hle => ?_) (fun g hcx hle => ?_)
  ·have hJ := hJ.trans hle
   refine lrun rfl (t_cond rfl (fun hc1 => ?_) (fun hc1 => ?_))
   ·exact absurd hc1 (by simp)
   ·refine t_skip (n_block (n_then (t_region (l_run 1 rfl (lq rfl (q_sub64 rfl rfl rfl (by omega)) ?_))))); refine l_runA rfl (n_roundE ((nn + 1, g)) ?_ ?_ (sub_cons' rfl (congrArg (Value.int IntKind.i64) (by omega)) (sub_nil)) (sub_rfl rfl) (fun _ h => by dsimp only; exact subC_st h))
    ·dsimp only; exact ⟨by omega, hcd, hJ⟩
    ·dsimp only
     show S.length - (nn + 1) < S.length - nn
     omega
  ·have hJ := hJ.trans hle
   refine lrun rfl (t_cond rfl (fun hc2 => ?_) (fun hc2 => ?_))
   ·refine tret (n_ret0 rfl (fun w' hw => ?_)); exact ⟨_, rfl, g, .inr ⟨nn + 1, (by rw [bwS_len]; omega), hcx⟩, hJ, hw0.rebase (subC_st hw)⟩
   ·exact absurd hc2 (by simp)
 ·simp at hc0
  have hn1 : nn = S.length := by omega
  refine t_exit (n_exit_then (n_exit_then (n_exit_block (n_end0 rfl (fun w' hw => ?_))))); exact ⟨_, rfl, g, .inl (by rw [bwS_len, ← hn1]; exact hcd), hJ, hw0.rebase (subC_st hw)⟩
theorem backward_calls (v : Value) (hone : One v) (I : Look) (F : List HA) (w0 w : World) (hw0 : St w0 I F w) : Calls Tryz.prog 146 [v].toArray w (fun e w' => ∃ v1, e = .returned v1 ∧ ∃ I' H', (Le I I' ∧ F = H' ∧ ∃ b, v1 = .func (.func 165) #[] #[.pointer (some ⟨b, 0, none⟩)] ∧ CellI I' b 0 v) ∧ St w I' H' w') := by
 refine enter Tryz.func146 rfl Tryz.ntmps146 rfl (hw0.self) (tr (le rfl (e_box rfl rfl (by exact One.cells (by assumption))) ?_)); rintro _ _ _ ⟨b1, rfl, rfl, rfl⟩; refine lrun rfl (t_seq (t_freezeRow b1 (fun J hJ h1 => ?_))); refine t_region (lq rfl (q_makeFunc rfl rfl rfl) (lrun rfl (t_ret (n_ret1 rfl rfl (fun w' hw => ?_))))); exact ⟨_, rfl, J, _, ⟨hJ, rfl, b1, rfl, h1 0 _ rfl⟩, hw⟩
theorem worth1_pure (x : Vr) (b : Nat) (n : List UInt8) (w : World) (hb : CellI (look w) b 0 (str n)) : Pure Tryz.prog 148 [.agg (vrC x).toArray, .pointer (some ⟨b, 0, none⟩)] w (.bool (decide (x.name = n))) := by
 refine enter Tryz.func148 rfl Tryz.ntmps148 rfl (St.start w (look w) (Le.refl _)) (tr (le rfl (e_box rfl rfl rfl) ?_)); rintro _ _ _ ⟨b2, rfl, rfl, rfl⟩; refine l_heap (H' := row b2 39 (vrC x) :: _) ?_ (fun _ h => h); refine lrun rfl (tr (l_run 1 rfl (lq rfl ((by exact q_ld rfl rfl (by rfl))) ?_))); refine lq rfl ((by exact q_ldr rfl rfl (rd_imm hb))) ?_; refine lq rfl (q_eql_str rfl rfl rfl) (lrun rfl (t_ret (n_ret1 rfl rfl (fun w' hw => ?_)))); exact ⟨rfl, hw.below⟩
theorem vIdx_pure (v : Value) (l : List Vr) (b : Nat) (n : List UInt8) (w : World) (hl : l.length ≤ 1000000000) (hv : Sl (look w) 5 v (l.map vrC)) (hb : CellI (look w) b 0 (str n)) : Pure Tryz.prog 147 [v, .func (.func 148) #[] #[.pointer (some ⟨b, 0, none⟩)]] w (.int .i64 (vIdx n l 0)) := by
 refine enter Tryz.func147 rfl Tryz.ntmps147 rfl (St.start w (look w) (Le.refl _)) (trun rfl (t_seq (tr (l_run 1 rfl ?_)))); refine lq rfl ((by exact q_len rfl un22 rfl (Sl.lenOf hv (List.length_map _)))) ?_; refine lrun rfl (t_block (t_loopE (ι := Nat) (fun zz => zz ≤ l.length ∧ vIdx n l 0 = vIdx n (l.drop zz) zz) (fun zz => l.length - zz) (fun zz => [(8, .int .i64 (zz : Int))]) [(0, _), (1, _), (7, _)] (fun zz => look w) (fun zz => []) 0 ?_ (sub_rfl rfl) (sub_rfl rfl) (fun _ h => subC_st h) ?_))
 ·exact ⟨Nat.zero_le _, by simp⟩
 rintro i ⟨hi, hx⟩; dsimp only at *; refine trun rfl (t_seq (t_cond rfl (fun hc0 => ?_) (fun hc0 => ?_)))
 ·simp at hc0
  refine tskip (t_seq (t_block (trun rfl (tr (l_run 3 rfl ?_))))); refine lq rfl ((by exact q_indexAddrN rfl un22 ti39 rfl rfl (Sl.shape hv (List.length_map _)) (by omega))) ?_; refine lq rfl ((by exact q_load_agg rfl un39 ti39 rfl rfl (rds_vr (i := i) hv (by omega)))) ?_; refine lq rfl (quiet_callC (cs := [.pointer (some ⟨b, 0, none⟩)]) rfl rfl rfl rfl rfl Tryz.func148 (by kernel_rfl) rfl ((fun w hw => worth1_pure (nth l i vr0) b n w (hb.mono (Le.of_st hw))))) (ln (t_cond rfl (fun hc1 => ?_) (fun hc1 => ?_)))
  ·refine trun rfl (tret (n_ret1 rfl rfl (fun w' hw => ?_))); refine ⟨?_, hw.below⟩; rw [hx, drop_nth vr0 (by omega), vIdx, if_pos (of_decide_eq_true hc1)]
  ·refine t_skip (n_block (n_then (t_region (lq rfl (q_add64 rfl rfl rfl (by omega)) ?_)))); refine l_runA rfl (n_roundE (i + 1) ?_ ?_ (sub_rfl rfl) (sub_rfl rfl) (fun _ h => by dsimp only; exact subC_st h))
   ·refine ⟨by omega, hx.trans ?_⟩; rw [drop_nth vr0 (by omega), vIdx, if_neg (of_decide_eq_false hc1)]
   ·omega
 ·simp at hc0
  refine t_exit (n_exit_then (n_exit_then (n_exit_block (n_then (trun rfl (t_ret (n_ret1 rfl rfl (fun w' hw => ?_)))))))); refine ⟨?_, hw.below⟩
  rw [hx, List.drop_of_length_le (by omega)]; rfl
end Go.Tri

/-
 What a variable is worth.
-/
namespace Go.Tri
open Go.Proofs Go.RowKit
set_option maxRecDepth 10000
theorem sl_vec {w0 w : World} {I : Look} {H : List HA} {v : Value} {T : TypeId} {S : List Ass} (hw : St w0 I H w) [hm : InVec v T 2 S.length (S.map asC).flatten H] : Sl (look w) 2 v (S.map asC) := by
 obtain ⟨X, Y, hH⟩ := List.append_of_mem hm.mem
 have hp : H.Perm (vec v T 2 S.length (S.map asC).flatten :: (X ++ Y)) := by rw [hH]; exact List.perm_middle
 obtain ⟨J, _, h2, h3⟩ := st_freeze (xss := S.map asC) (hw.perm hp) (List.length_map _) (fun cs hcs => by obtain ⟨a, _, rfl⟩ := List.mem_map.1 hcs; rfl); exact h3.mono h2.imm
def VarsOk (vars : List Vr) : Prop := vars.length ≤ 1000000000 ∧ ∀ v ∈ vars, v.value.length ≤ 1000000000
theorem worth_hit {vs : List (List UInt8 × List UInt8)} {S : List Ass} {n : List UInt8} {a : Ass} (h : S.reverse.find? (fun a => decide (a.1 = n)) = some a) : worthP vs S n = (a.2, 0) := by
 unfold worthP; rw [h]
theorem worth_zero {vars : List Vr} {S : List Ass} {n : List UInt8} (h : S.reverse.find? (fun a => decide (a.1 = n)) = none) (hv : vIdx n vars 0 < 0) : worthP (vars.map Vr.nv) S n = (0, 0) := by
 unfold worthP; rw [h]; simp only
 rw [find_nv]; rcases vIdx_find (n := n) vars 0 with ⟨_, h2⟩ | ⟨k, _, h2, _⟩
 ·rw [h2]; rfl
 ·omega
theorem worth_var {vars : List Vr} {S : List Ass} {n : List UInt8} (h : S.reverse.find? (fun a => decide (a.1 = n)) = none) (hv : ¬ vIdx n vars 0 < 0) : ∃ k, k < vars.length ∧ vIdx n vars 0 = (k : Int) ∧ worthP (vars.map Vr.nv) S n = numW (nth vars k vr0).value := by
 rcases vIdx_find (n := n) vars 0 with ⟨h1, _⟩ | ⟨k, h1, h2, h3⟩
 ·omega
 ·refine ⟨k, h1, by rw [h2, Nat.zero_add], ?_⟩
  unfold worthP; rw [h]; simp only
  rw [find_nv, h3]; rfl
def numR (s : List UInt8) : List UInt8 := if nth s 0 0 = 45 ∨ nth s 0 0 = 43 then s.drop 1 else s
theorem numR_le (s : List UInt8) : (numR s).length ≤ s.length := by
 unfold numR; split
 ·rw [List.length_drop]; omega
 ·exact Nat.le_refl _
theorem num_empty {t : List UInt8} (h : Lib.trimS t blS = []) : numW t = (0, 0) := by
 unfold numW; simp only; rw [if_pos h]
theorem num_bad {t s r : List UInt8} (hs : s = Lib.trimS t blS) (h : s ≠ []) (hr : r = numR s) (hb : ((decide (r = []) || decide (((nth r 0 0).toNat : Int) < 48)) || decide (57 < ((nth r 0 0).toNat : Int))) = true) : numW t = (0, 60) := by
 subst hs hr
 unfold numW; simp only; rw [if_neg h, if_pos]
 simp only [Bool.or_eq_true, decide_eq_true_eq] at hb; unfold numR at hb
 by_cases he : (if nth (Lib.trimS t blS) 0 0 = 45 ∨ nth (Lib.trimS t blS) 0 0 = 43 then (Lib.trimS t blS).drop 1 else Lib.trimS t blS) = []
 ·exact .inl he
 ·refine .inr ?_; unfold digitB'; rw [Bool.and_eq_false_iff, decide_eq_false_iff_not, decide_eq_false_iff_not]; rcases hb with (hb | hb) | hb
  ·exact absurd hb he
  ·exact .inl (by omega)
  ·exact .inr (by omega)
theorem num_go {t s r : List UInt8} (hs : s = Lib.trimS t blS) (h : s ≠ []) (hr : r = numR s) (hb : ((decide (r = []) || decide (((nth r 0 0).toNat : Int) < 48)) || decide (57 < ((nth r 0 0).toNat : Int))) = false) : r ≠ [] ∧ numW t = (match numLit r with
      | none => (0, 60)
      | some q => if q.2 = r.length then (if nth s 0 0 = 45 then w64 (-q.1) else q.1, 0) else (0, 60)) := by
  subst hs hr; simp only [Bool.or_eq_false_iff, decide_eq_false_iff_not] at hb; refine ⟨hb.1.1, ?_⟩
  unfold numW; simp only; rw [if_neg h, if_neg]
  · rfl
  · unfold numR at hb; rintro (h1 | h1)
    · exact hb.1.1 h1
    · unfold digitB' at h1; rw [Bool.and_eq_false_iff, decide_eq_false_iff_not, decide_eq_false_iff_not] at h1; rcases h1 with h1 | h1
      · exact hb.1.2 (by omega)
      · exact hb.2 (by omega)
theorem num_fail {r s : List UInt8} {x : Int × Nat} (hx : x = (match numLit r with
      | none => (0, 60)
      | some q => if q.2 = r.length then (if nth s 0 0 = 45 then w64 (-q.1) else q.1, 0) else (0, 60))) (h : (!(numLit r).isSome || decide (((litV r).2 : Int) ≠ (r.length : Int))) = true) : x = (0, 60) := by
  rw [hx]; unfold litV at h
  cases hn : numLit r with
  | none => rfl
  | some q =>
    rw [hn] at h; simp only; rw [if_neg]; intro he; rw [show ((some q).getD (0, 0)).2 = q.2 from rfl, he] at h
    simp at h
theorem num_done {r s : List UInt8} {x : Int × Nat} (hx : x = (match numLit r with
      | none => (0, 60)
      | some q => if q.2 = r.length then (if nth s 0 0 = 45 then w64 (-q.1) else q.1, 0) else (0, 60))) (h : (!(numLit r).isSome || decide (((litV r).2 : Int) ≠ (r.length : Int))) = false) : x = (if nth s 0 0 = 45 then w64 (-(litV r).1) else (litV r).1, 0) := by
  rw [hx]; unfold litV at h ⊢
  cases hn : numLit r with
  | none => rw [hn] at h; cases h
  | some q =>
    rw [hn] at h; simp only [Option.isSome_some, Bool.not_true, Bool.false_or, decide_eq_false_iff_not, Classical.not_not, Option.getD_some] at h ⊢; rw [if_pos (by omega)]
theorem trimS_le (s cs : List UInt8) : (Lib.trimS s cs).length ≤ s.length := by
 unfold Lib.trimS Lib.trimRightS
 have h1 := trimL_le (s.reverse.dropWhile (cs.contains ·)).reverse cs
 have h2 := (List.dropWhile_sublist (l := s.reverse) (cs.contains ·)).length_le
 rw [List.length_reverse] at h1 h2
 omega
theorem worth_pure (b : Nat) (vv sv : Value) (vars : List Vr) (S : List Ass) (n : List UInt8) (w : World) (hb : RowI (look w) b [vv, sv]) (hv : Sl (look w) 5 vv (vars.map vrC)) (hs : Sl (look w) 2 sv (S.map asC)) (hV : VarsOk vars) (hS : S.length ≤ 1000000000) : Pure Tryz.prog 122 [pAt b, str n] w (.tuple #[.int .i64 (worthP (vars.map Vr.nv) S n).1, .int .i64 ((worthP (vars.map Vr.nv) S n).2 : Int)]) := by
 refine enterMN Tryz.func122 rfl Tryz.ntmps122 rfl (St.start w (look w) (Le.refl _)) (tr (le rfl (e_box rfl rfl (by rfl)) ?_)); rintro _ _ _ ⟨b3, rfl, rfl, rfl⟩; refine le rfl (e_alloc rfl ti2 rfl) ?_; rintro _ _ _ ⟨b4, rfl, rfl, rfl⟩; refine le rfl (e_alloc rfl ti28 rfl) ?_; rintro _ _ _ ⟨b5, rfl, rfl, rfl⟩; refine lnr (l_run 3 rfl (lq rfl ((by exact q_ldr rfl rfl (rd_imm (hb 1 _ rfl)))) ?_)); refine lec rfl rfl rfl rfl (fun w hw => backward_calls sv hs.one _ _ _ w hw) ?_; rintro _ J18 _ ⟨hJ18, rfl, b18, rfl, hb18⟩; refine ln (t_block (t_range (γ := Int) (backward_iter S sv b18 (look w) hS hs) rfl rfl Tryz.func165 (by kernel_rfl) rfl (fun nn zz => (zz = 0) ∧ ∀ j, j < nn → (nth S (S.length - 1 - j) as0).1 ≠ n) (fun cc zz => (cc = .ret ∧ (worthP (vars.map Vr.nv) S n) = (zz, 0))) [] (fun zz TT => (row b5 28 [.int .i64 0] :: row b4 2 [.int .i64 zz] :: row b3 9 [str n] :: TT)) (fun _ _ => rfl) (fun zz => J18) [(0, _), (1, _), (3, _), (4, _), (5, _), (18, _)] (sub_rfl rfl) 0 ?_ ?_ ?_ ?_ rfl ?_ ?_ ?_ ?_))
 ·exact ⟨rfl, fun j h => absurd h (Nat.not_lt_zero _)⟩
 ·exact ⟨hb18, hJ18⟩
 ·exact Le.refl _
 ·exact fun _ h => subC_st h
 ·exact bwS_one
 ·intro bl ready busy done dfr nn vs a w0r FF hi hinv hrs hbz; obtain ⟨ha, hno⟩ := hinv; dsimp only at *; obtain ⟨hnl, rfl⟩ := bwS_of hi; subst ha; refine t_region (le rfl (e_alloc rfl ti166 rfl) ?_); rintro _ _ _ ⟨b7, rfl, rfl, rfl⟩; refine l_heap (H' := row b7 166 (asC as0) :: _) ?_ (fun _ h => h); refine l_e0 rfl rfl ((by exact e_store_all rfl ti166 rfl rfl rfl (by exact asC_ones _) rfl)) ?_; rintro _ _ _ ⟨rfl, rfl⟩; refine l_heap (H' := row b7 166 (asC (nth S (S.length - 1 - nn) as0)) :: _) ?_ (fun _ h => h); refine l_nil (n_begin (by rfl) hrs ?_); refine t_block (tr (l_run 1 rfl (lq rfl ((by exact q_ld rfl rfl (by rfl))) ?_))); refine lq rfl ((by exact q_ld rfl rfl (by rfl))) ?_; refine lq rfl (q_eql_str rfl rfl rfl) (ln (t_cond rfl (fun hc0 => ?_) (fun hc0 => ?_)))
  ·refine tr (l_run 1 rfl (lq rfl ((by exact q_ld rfl rfl (by rfl))) ?_)); refine l_e0 rfl rfl (e_storeS rfl ti2 rfl rfl (by exact ⟨rfl, rfl⟩) rfl (by (simp only [List.set_cons_succ, List.set_cons_zero]; rfl))) ?_; rintro _ _ _ ⟨rfl, rfl⟩; refine l_e0 rfl rfl (e_storeS rfl ti28 rfl rfl (by exact ⟨rfl, rfl⟩) rfl (by (simp only [List.set_cons_succ, List.set_cons_zero]; rfl))) ?_; rintro _ _ _ ⟨rfl, rfl⟩; refine ln (t_ret (n_ret_block (n_rret (fun w' hw' => .inr ⟨rfl, .ret, ((nth S (S.length - 1 - nn) as0).2), ?_, ?_, ?_⟩))))
   ·exact ⟨rfl, worth_hit (find_back S nn hnl hno (of_decide_eq_true hc0))⟩
   ·exact Le.refl _
   ·exact subC_st hw'
  ·refine t_skip (n_block (n_rnext (fun w' hw' => .inl ⟨rfl, (0), ?_, ?_, ?_⟩)))
   ·refine ⟨rfl, fun j hj => ?_⟩; rcases Nat.lt_succ_iff_lt_or_eq.1 hj with h | rfl
    ·exact hno j h
    ·exact of_decide_eq_false hc0
   ·exact Le.refl _
   ·exact subC_st hw'
 ·intro bd a hinv hle; obtain ⟨ha, hno⟩ := hinv; dsimp only at *; rw [bwS_len] at hno; subst ha
  have hfn := find_none hno
  refine n_block (n_then (tr (l_run 3 rfl (lq rfl ((by exact q_ldr rfl rfl (rd_imm ((hb.mono hJ18) 0 _ rfl)))) ?_)))); refine lq rfl (q_makeFunc rfl rfl rfl) (lq rfl (qc rfl rfl rfl ((fun w hw => vIdx_pure vv vars b3 n w hV.1 (hv.mono (hJ18.trans hw.le)) (rowI_of (b := b3) hw 0 _ rfl)))) (lrun rfl (t_seq (trun rfl (t_cond rfl (fun hc1 => ?_) (fun hc1 => ?_))))))
  ·have hvi := of_decide_eq_true hc1
   refine tr ?_; refine l_e0 rfl rfl (e_storeS rfl ti2 rfl rfl (by exact ⟨rfl, rfl⟩) rfl (by (simp only [List.set_cons_succ, List.set_cons_zero]; rfl))) ?_; rintro _ _ _ ⟨rfl, rfl⟩; refine l_e0 rfl rfl (e_storeS rfl ti28 rfl rfl (by exact ⟨rfl, rfl⟩) rfl (by (simp only [List.set_cons_succ, List.set_cons_zero]; rfl))) ?_; rintro _ _ _ ⟨rfl, rfl⟩; refine ln (t_ret (n_ret_then (n_np_ret (n_retGM (bs := [bd]) (.inl rfl) rfl (by exact res_cell rfl un2 rfl (by exact rd_rowI rfl) (res_cell rfl un28 rfl (by exact rd_rowI rfl) (res_nil))) (fun w' hw => ?_))))); refine ⟨?_, (hw.less hJ18).below⟩
   rw [worth_zero hfn hvi]; rfl
  ·obtain ⟨k, hkl, hke, hW⟩ := worth_var hfn (of_decide_eq_false hc1); rw [hke]; refine tskip (tr (l_run 3 rfl (lq rfl ((by exact q_ldr rfl rfl (rd_imm ((hb.mono hJ18) 0 _ rfl)))) ?_))); refine l_run 1 rfl ?_; refine lq rfl ((by exact q_indexAddrN rfl un22 ti39 rfl rfl (Sl.shape (hv.mono hJ18) (List.length_map _)) (by omega))) ?_; refine l_run 1 rfl (lq rfl ((by exact q_ldr rfl rfl (rd_vrf (i := k) (j := 1) (hv.mono hJ18) hkl rfl))) ?_); refine lq rfl (qc rfl rfl rfl ((fun w _ => trimB_pure (nth vars k vr0).value blS w (hV.2 _ (nth_mem hkl)) (by decide) (by decide)))) ?_; obtain ⟨s, hsx⟩ : ∃ s, s = Lib.trimS (nth vars k vr0).value blS := ⟨_, rfl⟩; rw [show Lib.trimS (nth vars k vr0).value blS = s from hsx.symm]
   have hsl : s.length ≤ 1000000000 := by rw [hsx]; exact Nat.le_trans (trimS_le _ _) (hV.2 _ (nth_mem hkl))
   refine lrun rfl (t_seq (tr (l_run 1 rfl (lq rfl (q_eql_str rfl rfl rfl) (ln (t_cond rfl (fun hc2 => ?_) (fun hc2 => ?_)))))))
   ·have hse : s = [] := of_decide_eq_true hc2
    refine tr ?_; refine l_e0 rfl rfl (e_storeS rfl ti2 rfl rfl (by exact ⟨rfl, rfl⟩) rfl (by (simp only [List.set_cons_succ, List.set_cons_zero]; rfl))) ?_; rintro _ _ _ ⟨rfl, rfl⟩; refine l_e0 rfl rfl (e_storeS rfl ti28 rfl rfl (by exact ⟨rfl, rfl⟩) rfl (by (simp only [List.set_cons_succ, List.set_cons_zero]; rfl))) ?_; rintro _ _ _ ⟨rfl, rfl⟩; refine ln (t_ret (n_ret_then (n_np_ret (n_retGM (bs := [bd]) (.inl rfl) rfl (by exact res_cell rfl un2 rfl (by exact rd_rowI rfl) (res_cell rfl un28 rfl (by exact rd_rowI rfl) (res_nil))) (fun w' hw => ?_))))); refine ⟨?_, (hw.less hJ18).below⟩
    rw [hW, num_empty (hsx.symm.trans hse)]; rfl
   ·have hsn : s ≠ [] := of_decide_eq_false hc2
    refine tskip (t_seq ?_)
    have hs0 : 0 < s.length := List.length_pos_iff.2 hsn
    refine t_region (l_run 1 rfl (lq rfl ((by exact q_index_strN rfl un9 rfl rfl (by omega))) ?_)); refine lq rfl (q_eql_u8c rfl rfl rfl rfl) (lrun rfl (t_cutE (ι := List UInt8) (fun zz => zz = numR s) (fun zz => [(9, str zz)]) [(0, _), (1, _), (3, _), (4, _), (5, _), (18, _), (8, _), (34, _), (45, _), (10, _)] (fun zz => J18) (fun zz => (row b5 28 [.int .i64 0] :: row b4 2 [.int .i64 0] :: row b3 9 [str n] :: obj bd (.deferred (some [])) :: [])) (sub_rfl rfl) ?_ ?_))
    ·refine t_seq ?_
     have hs0 : 0 < s.length := List.length_pos_iff.2 hsn
     refine t_qreg (s_run 2 rfl ?_)
     refine s_or2 3 1 50 54 53 _ _ rfl rfl rfl rfl rfl rfl (fun h54 => by
       simp at h54
       refine s_runG 1 rfl (sg rfl ((by exact q_index_strN rfl un9 rfl rfl (by omega))) ?_); refine sg rfl (q_eql_u8c rfl rfl rfl rfl) ?_; exact s_val rfl
      ) (wanted_n rfl) rfl rfl rfl ?_
     refine sdn (t_cond rfl (fun hc3 => ?_) (fun hc3 => ?_))
     ·refine t_region (l_run 1 rfl (lq rfl (q_slice_str_from rfl un9 rfl rfl (by omega)) ?_)); refine l_runA rfl (n_cut (s.drop 1) ?_ (sub_rfl rfl) (sub_rfl rfl) (fun _ h => by dsimp only; exact subC_st h))
      ·unfold numR; rw [if_pos (by simpa using hc3)]
     ·refine t_skip (n_cut (s) ?_ (sub_rfl rfl) (sub_rfl rfl) (fun _ h => by dsimp only; exact subC_st h))
      ·unfold numR; rw [if_neg (by simpa using hc3)]
    rintro r hr; dsimp only at *
    have hrl : r.length ≤ 1000000000 := by have := numR_le s; rw [hr]; omega
    refine t_seq (tq (s_run 1 rfl (sq rfl (q_eql_str rfl rfl rfl) (s_run 1 rfl ?_))))
    refine s_or2 3 2 59 63 62 _ _ rfl rfl rfl rfl rfl rfl (fun h63 => by
      simp at h63
      have hr0 : 0 < r.length := List.length_pos_iff.2 h63
      refine s_runG 1 rfl (sg rfl ((by exact q_index_strN rfl un9 rfl rfl (by omega))) ?_); refine s_runG 1 rfl ?_; exact s_val rfl
     ) (wanted_n rfl) rfl rfl rfl ?_
    refine s_run 1 rfl ?_
    refine s_or2 3 7 64 68 67 _ _ rfl rfl rfl rfl rfl rfl (fun h68 => by
      simp at h68
      have hr0 : 0 < r.length := List.length_pos_iff.2 h68.1
      refine s_runG 1 rfl (sg rfl ((by exact q_index_strN rfl un9 rfl rfl (by omega))) ?_); refine s_runG 1 rfl ?_; exact s_val rfl
     ) (wanted_n rfl) rfl rfl rfl ?_
    refine sdn (t_cond rfl (fun hc4 => ?_) (fun hc4 => ?_))
    ·have hnb := num_bad hsx hsn hr hc4
     refine tr ?_; refine l_e0 rfl rfl (e_storeS rfl ti2 rfl rfl (by exact ⟨rfl, rfl⟩) rfl (by (simp only [List.set_cons_succ, List.set_cons_zero]; rfl))) ?_; rintro _ _ _ ⟨rfl, rfl⟩; refine l_e0 rfl rfl (e_storeS rfl ti28 rfl rfl (by exact ⟨rfl, rfl⟩) rfl (by (simp only [List.set_cons_succ, List.set_cons_zero]; rfl))) ?_; rintro _ _ _ ⟨rfl, rfl⟩; refine ln (t_ret (n_ret_then (n_np_ret (n_retGM (bs := [bd]) (.inl rfl) rfl (by exact res_cell rfl un2 rfl (by exact rd_rowI rfl) (res_cell rfl un28 rfl (by exact rd_rowI rfl) (res_nil))) (fun w' hw => ?_))))); refine ⟨?_, (hw.less hJ18).below⟩
     rw [hW, hnb]; rfl
    ·obtain ⟨hrn, hng⟩ := num_go hsx hsn hr hc4; refine tskip (tr (l_run 1 rfl (lq rfl (qc rfl rfl rfl ((fun w _ => literal_pure r w (by omega) hrn))) ?_))); refine lrun rfl (t_seq (tq (s_run 3 rfl ?_)))
     refine s_or2 4 2 77 82 81 _ _ rfl rfl rfl rfl rfl rfl (fun h82 => by
       simp at h82
       refine s_runG 2 rfl (sg rfl (q_len_str rfl un9 rfl) (s_runG 1 rfl ?_)); exact s_val rfl
      ) (wanted_n rfl) rfl rfl rfl ?_
     refine sdn (t_cond rfl (fun hc5 => ?_) (fun hc5 => ?_))
     ·have hnf := num_fail hng hc5
      refine tr ?_; refine l_e0 rfl rfl (e_storeS rfl ti2 rfl rfl (by exact ⟨rfl, rfl⟩) rfl (by (simp only [List.set_cons_succ, List.set_cons_zero]; rfl))) ?_; rintro _ _ _ ⟨rfl, rfl⟩; refine l_e0 rfl rfl (e_storeS rfl ti28 rfl rfl (by exact ⟨rfl, rfl⟩) rfl (by (simp only [List.set_cons_succ, List.set_cons_zero]; rfl))) ?_; rintro _ _ _ ⟨rfl, rfl⟩; refine ln (t_ret (n_ret_then (n_np_ret (n_retGM (bs := [bd]) (.inl rfl) rfl (by exact res_cell rfl un2 rfl (by exact rd_rowI rfl) (res_cell rfl un28 rfl (by exact rd_rowI rfl) (res_nil))) (fun w' hw => ?_))))); refine ⟨?_, (hw.less hJ18).below⟩
      rw [hW, hnf]; rfl
     ·have hnd := num_done hng hc5
      refine tskip (t_cutE (ι := Int) (fun zz => zz = if nth s 0 0 = 45 then w64 (-(litV r).1) else (litV r).1) (fun zz => [(11, .int .i64 zz)]) [(9, _), (0, _), (1, _), (3, _), (4, _), (5, _), (18, _), (8, _), (34, _), (45, _), (10, _), (68, _), (12, _), (13, _), (82, _)] (fun zz => J18) (fun zz => (row b5 28 [.int .i64 0] :: row b4 2 [.int .i64 0] :: row b3 9 [str n] :: obj bd (.deferred (some [])) :: [])) (sub_rfl rfl) ?_ ?_)
      ·refine trun rfl (t_cond rfl (fun hc6 => ?_) (fun hc6 => ?_))
       ·refine t_region (l_run 1 rfl (lq rfl (q_neg rfl rfl) (l_runA rfl (n_cut (w64 (-(litV r).1)) ?_ (sub_rfl rfl) (sub_rfl rfl) (fun _ h => by dsimp only; exact subC_st h)))))
        ·rw [if_pos (show nth s 0 0 = 45 from of_decide_eq_true hc6)]
       ·refine t_skip (n_cut ((litV r).1) ?_ (sub_rfl rfl) (sub_rfl rfl) (fun _ h => by dsimp only; exact subC_st h))
        ·rw [if_neg (show ¬ nth s 0 0 = 45 from of_decide_eq_false hc6)]
      rintro z hz; dsimp only at *; refine tr (l_run 1 rfl ?_); refine l_e0 rfl rfl (e_storeS rfl ti2 rfl rfl (by exact ⟨rfl, rfl⟩) rfl (by (simp only [List.set_cons_succ, List.set_cons_zero]; rfl))) ?_; rintro _ _ _ ⟨rfl, rfl⟩; refine l_e0 rfl rfl (e_storeS rfl ti28 rfl rfl (by exact ⟨rfl, rfl⟩) rfl (by (simp only [List.set_cons_succ, List.set_cons_zero]; rfl))) ?_; rintro _ _ _ ⟨rfl, rfl⟩; refine ln (t_ret (n_np_ret (n_retGM (bs := [bd]) (.inl rfl) rfl (by exact res_cell rfl un2 rfl (by exact rd_rowI rfl) (res_cell rfl un28 rfl (by exact rd_rowI rfl) (res_nil))) (fun w' hw => ?_)))); refine ⟨?_, (hw.less hJ18).below⟩
      rw [hW, hnd, ← hz]; rfl
 ·intro bd cc a hex hle; obtain ⟨rfl, hex⟩ := hex; dsimp only at *; refine t_ret (n_ret_block (n_ret_then (n_np_ret (n_retGM (bs := [bd]) (.inl rfl) rfl (by exact res_cell rfl un2 rfl (by exact rd_rowI rfl) (res_cell rfl un28 rfl (by exact rd_rowI rfl) (res_nil))) (fun w' hw => ?_))))); refine ⟨?_, (hw.less hJ18).below⟩
  rw [hex]; rfl
end Go.Tri
