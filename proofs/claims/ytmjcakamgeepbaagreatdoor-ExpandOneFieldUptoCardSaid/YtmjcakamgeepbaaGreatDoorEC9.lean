/-
 Does a text stand unquoted at the beginning?
-/
import Derived.Test.YtmjcakamgeepbaaGreatDoorEB8
import Derived.Test.YtmjcakamgeepbaaGreatDoorPPat2
namespace Go.Tri
open Go.Proofs Go.RowKit
set_option maxRecDepth 10000
set_option maxRecDepth 100000 in
theorem eqCh (c d : Ch) (w : World) : (Op.equalIn 10000 92 (.agg (chC c).toArray) (.agg (chC d).toArray)).run Tryz.prog w = .ok (decide (c = d)) w := by
 rw [run_equalIn_agg w 9999 92 _ _ (by kernel_rfl) (by kernel_rfl)]
 show (Op.eqFields 9999 _ _ [_, _]).run Tryz.prog w = _
 simp [Op.eqFields, chC, u8, part, run_isAgg_false un5 rfl, run_isAgg_false un4 rfl]
 rw [run_equalIn_int (P := Tryz.prog) w 9998 5 .u8 .u8 _ _ un5]; simp only [Result.andThen_ok]; rw [run_equalIn_bool' (P := Tryz.prog) w 9998 4 _ _ un4]; obtain ⟨cb, cq⟩ := c; obtain ⟨db, dq⟩ := d; simp only [Result.andThen_ok, beq_eq_false_iff_ne, ne_eq, u8_eq, Ch.mk.injEq]
 by_cases h1 : cb = db <;> by_cases h2 : cq = dq <;> simp [h1, h2]
theorem rds_ch0 {w0 : World} {I : Look} {H : List HA} {v : Value} {l : List Ch} (h : Sl I 2 v (l.map chC)) {i : Nat} (hi : i < l.length) : Rds w0 I H (adr v).block ((adr v).off + i * 2) (chC (nth l i ch0)) := rds_ch h hi
theorem rd_ch_b0 {w0 : World} {I : Look} {H : List HA} {v : Value} {l : List Ch} (h : Sl I 2 v (l.map chC)) {i : Nat} (hi : i < l.length) : Rd w0 I H (adr v).block ((adr v).off + i * 2 + 0) (u8 (nth l i ch0).b) := rd_ch_b h hi
theorem pstarts_pure (v : Value) (p : List Ch) (s : List UInt8) (w : World) (hp : p.length ≤ 4611686018427387904) (hs : s.length ≤ 4611686018427387904) (hv : Sl (look w) 2 v (p.map chC)) : Pure Tryz.prog 113 [v, str s] w (.bool (startsP p s)) := by
 refine enter Tryz.func113 rfl Tryz.ntmps113 rfl (St.start w (look w) (Le.refl _)) (trun rfl (t_seq (tr (l_run 1 rfl ?_)))); refine lq rfl ((by exact q_len rfl un55 rfl (Sl.lenOf hv (List.length_map _)))) ?_; refine l_run 1 rfl (lq rfl (q_len_str rfl un9 rfl) (lrun rfl (t_cond rfl (fun hc0 => ?_) (fun hc0 => ?_))))
 ·simp at hc0
  refine trun rfl (tret (n_ret1 rfl rfl (fun w' hw => ?_))); refine ⟨?_, hw.below⟩; rw [startsP_short p s (by omega)]
 ·simp at hc0
  refine tskip (t_seq (tr (l_run 1 rfl (lq rfl (q_len_str rfl un9 rfl) (lrun rfl (t_block (t_loopE (ι := Nat) (fun i => i ≤ s.length ∧ startsP p s = startsP (p.drop i) (s.drop i)) (fun i => s.length - i) (fun i => [(13, .int .i64 (i : Int))]) [(0, _), (1, _), (10, _), (12, _)] (fun i => look w) (fun i => []) 0 ?_ (sub_rfl rfl) (sub_rfl rfl) (fun _ h => subC_st h) ?_)))))))
  ·exact ⟨Nat.zero_le _, by simp⟩
  rintro i ⟨hi, hst⟩; refine trun rfl (t_seq (t_cond rfl (fun hc1 => ?_) (fun hc1 => ?_)))
  ·simp at hc1
   refine tskip (t_seq (t_block (trun rfl (t_seq (t_qdraw mo (by kernel_rfl) (fun _ _ _ _ _ h => h) (s_run 2 rfl ?_)))))); refine sq rfl ((by exact q_indexAddrN rfl un55 ti92 rfl rfl (Sl.shape hv (List.length_map _)) (by omega))) ?_; refine sq rfl ((by exact q_load_agg rfl un92 ti92 rfl rfl (rds_ch0 (i := i) hv (by omega)))) ?_; refine s_run 2 rfl (sq rfl ((by exact q_index_strN rfl un9 rfl rfl (by omega))) ?_); refine sq rfl (q_build (pl := [(_, _), (_, _)]) (cs := (chC (uq (nth s i 0))).toArray) rfl un92 ti92 ⟨rfl, ⟨_, _, ti5⟩, rfl, ⟨_, _, ti4⟩, trivial⟩ rfl rfl) (sq rfl (q_neq_st rfl (by kernel_rfl) rfl rfl (eqCh _ _)) (sdn (t_cond rfl (fun hc2 => ?_) (fun hc2 => ?_))))
   ·simp only [Bool.not_eq_true', Bool.not_eq_false', decide_eq_true_eq, decide_eq_false_iff_not] at hc2; refine trun rfl (tret (n_ret1 rfl rfl (fun w' hw => ?_))); refine ⟨?_, hw.below⟩
    rw [hst, startsP_drop p s i (by omega) (by omega)]; simp [hc2]
   ·simp only [Bool.not_eq_true', Bool.not_eq_false', decide_eq_true_eq, decide_eq_false_iff_not] at hc2; refine t_skip (n_block (n_then (t_region (lq rfl (q_add64 rfl rfl rfl (by omega)) ?_)))); refine l_runA rfl (n_roundE (i + 1) ?_ ?_ (sub_rfl rfl) (sub_rfl rfl) (fun _ h => by dsimp only; exact subC_st h))
    ·refine ⟨by omega, hst.trans ?_⟩; rw [startsP_drop p s i (by omega) (by omega), hc2]; simp
    ·omega
  ·simp at hc1
   refine t_exit (n_exit_then (n_exit_then (n_exit_block (n_then (trun rfl (t_ret (n_ret1 rfl rfl (fun w' hw => ?_)))))))); refine ⟨?_, hw.below⟩; rw [hst, show s.drop i = [] from List.drop_of_length_le (by omega), startsP_nil]
end Go.Tri

/-
 Members of a bracket.
-/
namespace Go.Tri
open Go.Proofs Go.RowKit
set_option maxRecDepth 10000
theorem clsP_len (p : List Ch) : (clsP p).length ≤ 5 := by
 rcases cls_cases p with ⟨h, _⟩ | ⟨n, hn, _, h⟩
 ·rw [h]; decide
 ·rw [h, cls_len hn]; decide
theorem memC_ones (m : Mem) : ∀ u ∈ memC m, u.oneCell' = true := fun u hu => by
 simp only [memC, List.mem_cons, List.not_mem_nil, or_false] at hu
 rcases hu with rfl | rfl | rfl <;> rfl
theorem clsText_len {n : List UInt8} (h : n ∈ clsNames) : (clsText n).length = 9 := by simp [clsText, cls_len h]
theorem cls_len2 {i : Nat} (h : i < clsNames.length) : (nth clsNames i []).length = 5 := cls_len (nth_mem h)
theorem memP_cl {p : List Ch} (h : clsP p ≠ []) : memP p = (⟨clsP p, 0, 0⟩, (clsP p).length + 4) := if_pos h
theorem memP_rg {p : List Ch} (h : clsP p = []) (h2 : (decide ((2 : Int) < (p.length : Int)) && startsP (p.drop 1) [45] && !startsP (p.drop 2) [93]) = true) : memP p = (⟨[], (nth p 0 ch0).b, (nth p 2 ch0).b⟩, 3) := by
 unfold memP; rw [if_neg (by simp [h]), if_pos h2]
theorem memP_on {p : List Ch} (h : clsP p = []) (h2 : (decide ((2 : Int) < (p.length : Int)) && startsP (p.drop 1) [45] && !startsP (p.drop 2) [93]) = false) : memP p = (⟨[], (nth p 0 ch0).b, (nth p 0 ch0).b⟩, 1) := by
 unfold memP; rw [if_neg (by simp [h]), if_neg (fun h' => by rw [h'] at h2; cases h2)]
theorem holds_pure (m : Mem) (c : UInt8) (w : World) : Pure Tryz.prog 162 [.agg (memC m).toArray, u8 c] w (.bool (holdsM m c)) := by
 refine enter Tryz.func162 rfl Tryz.ntmps162 rfl (St.start w (look w) (Le.refl _)) (tr (le rfl (e_box rfl rfl rfl) ?_)); rintro _ _ _ ⟨b2, rfl, rfl, rfl⟩; refine lrun rfl (tq (s_run 3 rfl ?_))
 refine s_and2 2 2 10 13 12 _ _ rfl rfl rfl rfl rfl rfl (fun h13 => by
   simp at h13
   refine s_runG 2 rfl ?_; exact s_val rfl
  ) (wanted_n rfl) rfl rfl rfl ?_
 refine s_run 3 rfl ?_
 refine s_and2 2 8 16 19 18 _ _ rfl rfl rfl rfl rfl rfl (fun h19 => by
   simp at h19
   refine s_runG 2 rfl ?_; exact s_val rfl
  ) (wanted_n rfl) rfl rfl rfl ?_
 refine s_run 3 rfl ?_
 refine s_and2 2 14 22 25 24 _ _ rfl rfl rfl rfl rfl rfl (fun h25 => by
   simp at h25
   refine s_runG 2 rfl ?_; exact s_val rfl
  ) (wanted_n rfl) rfl rfl rfl ?_
 refine s_run 3 rfl (sdn (t_seq (tr (l_run 1 rfl (lq rfl (q_ld rfl rfl (by rfl)) ?_))))); refine ln (t_block (tr (lq rfl (q_eql_str rfl rfl rfl) (lrun rfl (t_cond rfl (fun hc0 => ?_) (fun hc0 => ?_))))))
 ·simp only [decide_eq_true_eq, decide_eq_false_iff_not] at hc0; refine tq (s_run 2 rfl ?_)
  refine s_or2 1 1 31 33 32 _ _ rfl rfl rfl rfl rfl rfl (fun h33 => by
    simp at h33
    refine s_runG 1 rfl ?_; exact s_val rfl
   ) (wanted_n rfl) rfl rfl rfl ?_
  refine s_run 1 rfl (sdn (tret (n_ret1 rfl rfl (fun w' hw => ?_)))); refine ⟨?_, hw.below⟩
  simp [holdsM, classB, clsNames, upperB, lowerB, digitB, spaceB, *] <;> exact Bool.or_comm _ _
 ·simp only [decide_eq_true_eq, decide_eq_false_iff_not] at hc0; refine tr (lq rfl (q_eql_str rfl rfl rfl) (lrun rfl (t_cond rfl (fun hc1 => ?_) (fun hc1 => ?_))))
  ·simp only [decide_eq_true_eq, decide_eq_false_iff_not] at hc1; refine trun rfl (tret (n_ret1 rfl rfl (fun w' hw => ?_))); refine ⟨?_, hw.below⟩
   simp [holdsM, classB, clsNames, upperB, lowerB, digitB, spaceB, *] <;> exact Bool.or_comm _ _
  ·simp only [decide_eq_true_eq, decide_eq_false_iff_not] at hc1; refine tr (lq rfl (q_eql_str rfl rfl rfl) (lrun rfl (t_cond rfl (fun hc2 => ?_) (fun hc2 => ?_))))
   ·simp only [decide_eq_true_eq, decide_eq_false_iff_not] at hc2; refine tq (s_run 2 rfl ?_)
    refine s_or2 1 1 40 42 41 _ _ rfl rfl rfl rfl rfl rfl (fun h42 => by
      simp at h42
      refine s_runG 1 rfl ?_; exact s_val rfl
     ) (wanted_n rfl) rfl rfl rfl ?_
    refine s_run 1 rfl ?_
    refine s_or2 1 4 43 45 44 _ _ rfl rfl rfl rfl rfl rfl (fun h45 => by
      simp at h45
      refine s_runG 1 rfl ?_; exact s_val rfl
     ) (wanted_n rfl) rfl rfl rfl ?_
    refine s_run 1 rfl (sdn (tret (n_ret1 rfl rfl (fun w' hw => ?_)))); refine ⟨?_, hw.below⟩
    simp [holdsM, classB, clsNames, upperB, lowerB, digitB, spaceB, *] <;> exact Bool.or_comm _ _
   ·simp only [decide_eq_true_eq, decide_eq_false_iff_not] at hc2; refine tr (lq rfl (q_eql_str rfl rfl rfl) (lrun rfl (t_cond rfl (fun hc3 => ?_) (fun hc3 => ?_))))
    ·simp only [decide_eq_true_eq, decide_eq_false_iff_not] at hc3; refine trun rfl (tret (n_ret1 rfl rfl (fun w' hw => ?_))); refine ⟨?_, hw.below⟩
     simp [holdsM, classB, clsNames, upperB, lowerB, digitB, spaceB, *] <;> exact Bool.or_comm _ _
    ·simp only [decide_eq_true_eq, decide_eq_false_iff_not] at hc3; refine tr (lq rfl (q_eql_str rfl rfl rfl) (lrun rfl (t_cond rfl (fun hc4 => ?_) (fun hc4 => ?_))))
     ·simp only [decide_eq_true_eq, decide_eq_false_iff_not] at hc4; refine trun rfl (tret (n_ret1 rfl rfl (fun w' hw => ?_))); refine ⟨?_, hw.below⟩
      simp [holdsM, classB, clsNames, upperB, lowerB, digitB, spaceB, *] <;> exact Bool.or_comm _ _
     ·simp only [decide_eq_true_eq, decide_eq_false_iff_not] at hc4; refine tr (lq rfl (q_eql_str rfl rfl rfl) (lrun rfl (t_cond rfl (fun hc5 => ?_) (fun hc5 => ?_))))
      ·simp only [decide_eq_true_eq, decide_eq_false_iff_not] at hc5; refine tq (s_run 1 rfl (sq rfl (q_eql_u8c rfl rfl rfl rfl) (s_run 1 rfl ?_)))
       refine s_or2 6 2 56 63 62 _ _ rfl rfl rfl rfl rfl rfl (fun h63 => by
         simp at h63
         refine s_runG 3 rfl ?_
         refine s_and2 2 5 59 62 61 _ _ rfl rfl rfl rfl rfl rfl (fun h62 => by
           simp at h62
           refine s_runG 2 rfl ?_; exact s_val rfl
          ) (wanted_g rfl rfl rfl rfl) rfl rfl rfl ?_
         exact s_val rfl
        ) (wanted_n rfl) rfl rfl rfl ?_
       refine s_run 1 rfl (sdn (tret (n_ret1 rfl rfl (fun w' hw => ?_)))); refine ⟨?_, hw.below⟩
       simp [holdsM, classB, clsNames, upperB, lowerB, digitB, spaceB, *] <;> exact Bool.or_comm _ _
      ·simp only [decide_eq_true_eq, decide_eq_false_iff_not] at hc5; refine t_skip (n_block (n_then (tq (s_run 1 rfl (sq rfl (q_ld rfl rfl (by rfl)) ?_))))); refine s_run 3 rfl ?_
       refine s_and2 4 4 68 73 72 _ _ rfl rfl rfl rfl rfl rfl (fun h73 => by
         simp at h73
         refine s_runG 2 rfl (sg rfl (q_ld rfl rfl (by rfl)) ?_); refine s_runG 1 rfl ?_; exact s_val rfl
        ) (wanted_n rfl) rfl rfl rfl ?_
       refine s_run 1 rfl (sdn (t_ret (n_ret1 rfl rfl (fun w' hw => ?_)))); refine ⟨?_, hw.below⟩
       simp [holdsM, classB, clsNames, upperB, lowerB, digitB, spaceB, *] <;> exact Bool.or_comm _ _
theorem members_calls (vp : Value) (I : Look) (F : List HA) (w0 w : World) (hvp : One vp) (hw0 : St w0 I F w) : Calls Tryz.prog 161 [vp].toArray w (fun e w' => ∃ v, e = .returned v ∧ ∃ I' H', (Le I I' ∧ F = H' ∧ ∃ b, v = .func (.func 170) #[] #[.pointer (some ⟨b, 0, none⟩)] ∧ CellI I' b 0 vp) ∧ St w I' H' w') := by
 refine enter Tryz.func161 rfl Tryz.ntmps161 rfl (hw0.self) (tr (le rfl (e_box rfl rfl (by exact One.cells (by assumption))) ?_)); rintro _ _ _ ⟨b1, rfl, rfl, rfl⟩; refine lrun rfl (t_seq (t_freezeRow b1 (fun J hJ h1 => ?_))); refine t_region (lq rfl (q_makeFunc rfl rfl rfl) (lrun rfl (t_ret (n_ret1 rfl rfl (fun w' hw => ?_))))); exact ⟨_, rfl, J, _, ⟨hJ, rfl, b1, rfl, h1 0 _ rfl⟩, hw⟩
theorem members_iter (p : List Ch) (vp : Value) (b1 : Nat) (hp : p.length ≤ 4611686018427387904) : Iterates Tryz.prog 170 [.pointer (some ⟨b1, 0, none⟩)] (memVs p.length vp (memsG p true)) (fun I => CellI I b1 0 vp ∧ Sl I 2 vp (p.map chC)) := by
 intro γ Cd Cx G II lid hY w0 g00 F w hcd0 ⟨hb1, hv0⟩ hw0
 have hJ := Le.refl (II g00)
 have hvq := hv0
 refine enter Tryz.func170 rfl Tryz.ntmps170 rfl (hw0.self) (trun rfl (tr ?_)); refine lq rfl ((by exact q_ldr rfl rfl (rd_imm (hb1.mono hJ)))) ?_; refine lrun rfl (t_block (t_loopE (ι := List Ch × Value × Bool × Nat × γ) (fun zz => zz.2.2.2.1 ≤ (memVs p.length vp (memsG p true)).length ∧ Cd zz.2.2.2.1 zz.2.2.2.2 ∧ Le (II g00) (II zz.2.2.2.2) ∧ (memVs p.length vp (memsG p true)).drop zz.2.2.2.1 = memVs zz.1.length zz.2.1 (memsG zz.1 zz.2.2.1) ∧ Sl (II zz.2.2.2.2) 2 zz.2.1 (zz.1.map chC) ∧ zz.1.length ≤ 4611686018427387904) (fun zz => zz.1.length) (fun zz => [(3, .bool zz.2.2.1), (4, zz.2.1)]) [(0, _), (1, _)] (fun zz => (II zz.2.2.2.2)) (fun zz => (F ++ G zz.2.2.2.2)) (p, vp, true, 0, g00) ?_ (sub_rfl rfl) (sub_rfl rfl) (fun _ h => subC_st h) ?_))
 ·dsimp only; exact ⟨Nat.zero_le _, hcd0, Le.refl _, rfl, hv0, hp⟩
 rintro ⟨q, vq, fi, nn, g⟩ ⟨hn, hcd, hJ, hdr, hvq, hql⟩; dsimp only at *; refine t_seq (tq (s_run 1 rfl ?_)); refine sq rfl ((by exact q_len rfl un55 rfl (Sl.lenOf hvq (List.length_map _)))) ?_; refine s_run 2 rfl ?_
 refine s_and2 6 3 14 21 20 _ _ rfl rfl rfl rfl rfl rfl (fun h21 => by
   simp at h21
   refine s_runG 2 rfl ?_
   refine s_or2 3 5 16 20 19 _ _ rfl rfl rfl rfl rfl rfl (fun h20 => by
     refine s_runG 1 rfl (sg rfl (qc rfl rfl rfl ((fun w hw => pstarts_pure vq q [93] w hql (by decide) (hvq.mono hw.le)))) ?_); refine s_runG 1 rfl ?_; exact s_val rfl
    ) (wanted_g rfl rfl rfl rfl) rfl rfl rfl ?_
   exact s_val rfl
  ) (wanted_n rfl) rfl rfl rfl ?_
 refine sdn (t_cond rfl (fun hc0 => ?_) (fun hc0 => ?_))
 ·have h0 : (decide ((0 : Int) < (q.length : Int)) && (fi || !startsP q [93])) = true := hc0
  rw [Bool.and_eq_true, decide_eq_true_eq] at h0
  have hq0 : 0 < q.length := by omega
  have hst : (!fi && startsP q [93]) = false := by have := h0.2; cases fi <;> simp_all
  refine tskip (t_seq (t_block (t_seq (t_draw [9, 10] [] [] mo (by kernel_rfl) (fun _ _ _ _ _ h => h) (r_run [0] (by kernel_rfl) rfl rfl rfl ?_))))); refine rq0 1 (by kernel_rfl) rfl (Le.refl _) rfl (fun _ hI => (by exact q_indexAddrN rfl un55 ti92 rfl rfl (Sl.shape hvq (List.length_map _)) (by omega))) ?_; refine r_run [2] (by kernel_rfl) rfl rfl rfl ?_; refine rq0 3 (by kernel_rfl) rfl (Le.refl _) rfl (fun _ hI => (by exact q_ldr rfl rfl (rd_ch_b0 (i := 0) (hvq.mono hI) (by omega)))) ?_; refine r_run [4] (by kernel_rfl) rfl rfl rfl ?_; refine rq0 5 (by kernel_rfl) rfl (Le.refl _) rfl (fun _ hI => (by exact q_indexAddrN rfl un55 ti92 rfl rfl (Sl.shape hvq (List.length_map _)) (by omega))) ?_; refine r_run [6] (by kernel_rfl) rfl rfl rfl ?_; refine rq0 7 (by kernel_rfl) rfl (Le.refl _) rfl (fun _ hI => (by exact q_ldr rfl rfl (rd_ch_b0 (i := 0) (hvq.mono hI) (by omega)))) ?_; refine rq0 8 (by kernel_rfl) rfl (Le.refl _) rfl (fun _ hI => q_build (pl := [(_, _), (_, _), (_, _)]) (cs := (memC ⟨[], (nth q 0 ch0).b, (nth q 0 ch0).b⟩).toArray) rfl un264 ti264 ⟨rfl, ⟨_, _, ti9⟩, rfl, ⟨_, _, ti5⟩, rfl, ⟨_, _, ti5⟩, trivial⟩ rfl rfl) (re 9 (by kernel_rfl) rfl (Le.refl _) rfl (e_alloc rfl ti264 rfl) ?_); rintro _ _ _ ⟨b5, rfl, rfl, rfl⟩; refine ⟨Le.refl _, .inr SubC.sub, ?_⟩; refine r_e0 10 (by kernel_rfl) (by kernel_rfl) rfl (Le.refl _) rfl rfl ((by exact e_store_all rfl ti264 rfl rfl rfl (by exact memC_ones _) rfl)) ?_; rintro _ _ _ ⟨rfl, rfl⟩; refine ⟨Le.refl _, .inr SubC.sub, ?_⟩
  refine r_heap (H' := row b5 264 (memC ⟨[], (nth q 0 ch0).b, (nth q 0 ch0).b⟩) :: _) ?_ (fun _ h => h); refine r_run [11] (by kernel_rfl) rfl rfl rfl (r_end (by kernel_rfl) (n_then (trun rfl (t_seq (tr (le rfl (e_buildSliceN (vs := [_, _, _, _, _, _]) (css := [stC (nth clsNames 0 []), stC (nth clsNames 1 []), stC (nth clsNames 2 []), stC (nth clsNames 3 []), stC (nth clsNames 4 []), stC (nth clsNames 5 [])]) rfl un23 ti9 rfl rfl rfl rfl (rfl) (by simp [stC])) ?_)))))); rintro _ _ _ ⟨b31, rfl, rfl, rfl⟩; refine l_heap (H' := tvec 9 1 stC (.slice (some ⟨b31, 0, none⟩) 6 6) clsNames :: _) ?_ (fun _ h => st_rowVec h rfl (by decide)); refine lq rfl ((by exact q_lenV rfl un23 rfl)) ?_; refine lrun rfl (t_block (t_loopE (ι := Nat × List UInt8) (fun zz => zz.1 ≤ clsNames.length ∧ zz.2 = (clsNames.take zz.1).foldl (clsStep q) []) (fun zz => clsNames.length - zz.1) (fun zz => [(33, .int .i64 (zz.1 : Int)), (7, str zz.2)]) [(3, _), (4, _), (0, _), (1, _), (21, _), (5, _), (6, _), (31, _), (32, _)] (fun zz => (II g)) (fun zz => (tvec 9 1 stC (.slice (some ⟨b31, 0, none⟩) 6 6) clsNames :: row b5 264 (memC ⟨[], (nth q 0 ch0).b, (nth q 0 ch0).b⟩) :: (F ++ G g))) (0, []) ?_ (sub_rfl rfl) (sub_rfl rfl) (fun _ h => subC_st h) ?_))
  ·dsimp only; exact ⟨Nat.zero_le _, rfl⟩
  rintro ⟨i, cl⟩ ⟨hi, hcl⟩; dsimp only at *
  have hn6 : clsNames.length = 6 := rfl
  refine trun rfl (t_seq (t_cond rfl (fun hc1 => ?_) (fun hc1 => ?_)))
  ·simp only [decide_eq_true_eq, decide_eq_false_iff_not] at hc1
   have hil : i < clsNames.length := by have : clsNames.length = 6 := rfl; omega
   have hcl2 := cls_len2 hil
   refine tskip (t_seq (t_block (tr ?_))); refine lq rfl ((by exact q_indexAddrVN rfl un23 ti9 rfl rfl (by omega))) ?_; refine lq rfl ((by exact q_load_vec rfl un9 rfl rfl (stC_at (by omega)))) ?_; refine lrun rfl (tr (l_run 2 rfl (lq rfl (q_cat rfl rfl rfl (by (simp only [List.length_append, List.length_cons, List.length_nil, List.length_take, List.length_drop]; omega))) ?_))); refine lq rfl (q_cat rfl rfl rfl (by (simp only [List.length_append, List.length_cons, List.length_nil, List.length_take, List.length_drop]; omega))) ?_; refine lq rfl (qc rfl rfl rfl ((fun w hw => pstarts_pure vq q (clsText (nth clsNames i [])) w hql (by rw [clsText_len (nth_mem (by omega))]; decide) (hvq.mono hw.le)))) ?_; refine ln (t_cond rfl (fun hc2 => ?_) (fun hc2 => ?_))
   ·refine t_region (l_runA rfl (n_block (n_then (t_region (lq rfl (q_add64 rfl rfl rfl (by omega)) ?_))))); refine l_runA rfl (n_roundE ((i + 1, nth clsNames i [])) ?_ ?_ (sub_rfl rfl) (sub_rfl rfl) (fun _ h => by dsimp only; exact subC_st h))
    ·dsimp only
     refine ⟨by show i + 1 ≤ _; omega, ?_⟩; rw [fold_take _ _ [] (by omega), ← hcl, clsStep, if_pos hc2]
    ·dsimp only
     show clsNames.length - (i + 1) < clsNames.length - i; omega
   ·refine t_skip (n_block (n_then (t_region (lq rfl (q_add64 rfl rfl rfl (by omega)) ?_)))); refine l_runA rfl (n_roundE ((i + 1, cl)) ?_ ?_ (sub_rfl rfl) (sub_rfl rfl) (fun _ h => by dsimp only; exact subC_st h))
    ·dsimp only
     refine ⟨by show i + 1 ≤ _; omega, ?_⟩; rw [fold_take _ _ [] (by omega), ← hcl, clsStep, if_neg (by rw [hc2]; simp)]
    ·dsimp only
     show clsNames.length - (i + 1) < clsNames.length - i; omega
  ·simp only [decide_eq_true_eq, decide_eq_false_iff_not] at hc1
   have hcl : cl = clsP q := by rw [hcl, List.take_of_length_le (by have : clsNames.length = 6 := rfl; omega)]; rfl
   refine t_exit (n_exit_then (n_exit_then (n_exit_block (n_then (t_cutE (ι := Mem × Nat) (fun zz => (zz.1, zz.2) = memP q) (fun zz => [(6, .int .i64 (zz.2 : Int))]) [(33, _), (3, _), (4, _), (0, _), (1, _), (21, _), (5, _), (31, _), (32, _), (34, _)] (fun zz => (II g)) (fun zz => (row b5 264 (memC zz.1) :: (F ++ G g))) (sub_rfl rfl) ?_ ?_)))))
   ·refine t_block (tr (l_run 1 rfl (lq rfl (q_neq_str rfl rfl rfl) (lrun rfl (t_cond rfl (fun hc3 => ?_) (fun hc3 => ?_))))))
    ·simp only [ne_eq, decide_not, Bool.not_eq_true', Bool.not_eq_false', decide_eq_true_eq, decide_eq_false_iff_not] at hc3
     have hcll : cl.length ≤ 5 := by rw [hcl]; exact clsP_len q
     refine t_region (l_run 1 rfl (lq rfl (q_build (pl := [(_, _), (_, _), (_, _)]) (cs := (memC ⟨cl, 0, 0⟩).toArray) rfl un264 ti264 ⟨rfl, ⟨_, _, ti9⟩, rfl, ⟨_, _, ti5⟩, rfl, ⟨_, _, ti5⟩, trivial⟩ rfl rfl) (l_run 1 rfl (lq rfl (q_len_str rfl un9 rfl) (lq rfl (q_add64 rfl rfl rfl (by omega)) ?_))))); refine l_e0 rfl rfl ((by exact e_store_all rfl ti264 rfl rfl rfl (by exact memC_ones _) rfl)) ?_; rintro _ _ _ ⟨rfl, rfl⟩; refine l_heap (H' := row b5 264 (memC ⟨cl, 0, 0⟩) :: _) ?_ (fun _ h => h); refine l_runA rfl (n_block (n_cut ((⟨cl, 0, 0⟩, cl.length + 4)) ?_ (sub_rfl rfl) (sub_rfl rfl) (fun _ h => by dsimp only; exact subC_st h)))
     ·dsimp only
      rw [hcl] at *; exact (memP_cl hc3).symm
    ·simp only [ne_eq, decide_not, Bool.not_eq_true', Bool.not_eq_false', decide_eq_true_eq, decide_eq_false_iff_not] at hc3; rw [hcl] at hc3
     have hcl : clsP q = [] := hc3
     refine tq (s_run 1 rfl ?_); refine sq rfl ((by exact q_len rfl un55 rfl (Sl.lenOf hvq (List.length_map _)))) ?_; refine s_run 2 rfl ?_
     refine s_and2 3 3 56 60 59 _ _ rfl rfl rfl rfl rfl rfl (fun h60 => by
       simp at h60
       refine s_runG 1 rfl (sg rfl ((by exact q_slice_from rfl un55 ti92 rfl rfl (Sl.lenOf hvq (List.length_map _)) (by omega))) ?_); refine sg rfl (qc rfl rfl rfl ((fun w hw => pstarts_pure _ (q.drop 1) [45] w (by rw [List.length_drop]; omega) (by decide) ((hvq.dropM rfl (show 1 ≤ q.length by omega)).mono hw.le)))) ?_; exact s_val rfl
      ) (wanted_n rfl) rfl rfl rfl ?_
     refine s_run 1 rfl ?_
     refine s_and2 4 8 61 66 65 _ _ rfl rfl rfl rfl rfl rfl (fun h66 => by
       simp at h66
       refine s_runG 1 rfl (sg rfl ((by exact q_slice_from rfl un55 ti92 rfl rfl (Sl.lenOf hvq (List.length_map _)) (by omega))) ?_); refine sg rfl (qc rfl rfl rfl ((fun w hw => pstarts_pure _ (q.drop 2) [93] w (by rw [List.length_drop]; omega) (by decide) ((hvq.dropM rfl (show 2 ≤ q.length by omega)).mono hw.le)))) ?_; refine s_runG 1 rfl ?_; exact s_val rfl
      ) (wanted_n rfl) rfl rfl rfl ?_
     refine s_run 1 rfl (sdn (t_cond rfl (fun hc4 => ?_) (fun hc4 => ?_)))
     ·have h4 : (decide ((2 : Int) < (q.length : Int)) && startsP (q.drop 1) [45] && !startsP (q.drop 2) [93]) = true := hc4
      have h42 : 2 < q.length := by simp only [Bool.and_eq_true, decide_eq_true_eq] at h4; omega
      refine t_region (l_run 1 rfl ?_); refine lq rfl ((by exact q_indexAddrN rfl un55 ti92 rfl rfl (Sl.shape hvq (List.length_map _)) (by omega))) ?_; refine l_run 1 rfl ?_; refine lq rfl ((by exact q_ldr rfl rfl (rd_ch_b0 (i := 2) hvq (by omega)))) ?_; refine l_run 1 rfl ?_; refine l_e0 rfl rfl (e_storeS rfl ti5 rfl rfl (by exact ⟨rfl, rfl⟩) rfl (by rfl)) ?_; rintro _ _ _ ⟨rfl, rfl⟩; refine l_heap (H' := row b5 264 (memC ⟨[], (nth q 0 ch0).b, (nth q 2 ch0).b⟩) :: _) ?_ (fun _ h => h); refine l_runA rfl (n_block (n_cut ((⟨[], (nth q 0 ch0).b, (nth q 2 ch0).b⟩, 3)) ?_ (sub_rfl rfl) (sub_rfl rfl) (fun _ h => by dsimp only; exact subC_st h)))
      ·dsimp only; exact (memP_rg hcl hc4).symm
     ·refine t_skip (n_block (n_cut ((⟨[], (nth q 0 ch0).b, (nth q 0 ch0).b⟩, 1)) ?_ (sub_rfl rfl) (sub_rfl rfl) (fun _ h => by dsimp only; exact subC_st h)))
      ·dsimp only; exact (memP_on hcl hc4).symm
   rintro ⟨m, k⟩ hmk; dsimp only at *
   have hqn : q ≠ [] := List.ne_nil_of_length_pos hq0
   have hk1 : k ≤ q.length := by have := memP_len hqn; rw [← hmk] at this; exact this
   have hk2 : 1 ≤ k := by have := memP_pos q; rw [← hmk] at this; exact this
   have hvr := hvq.dropM (l := k) rfl hk1
   rw [memVs_step hqn fi hst, ← hmk] at hdr; refine tr (l_run 2 rfl (lq rfl ((by exact q_slice_from rfl un55 ti92 rfl rfl (Sl.lenOf hvq (List.length_map _)) (by omega))) ?_)); refine lrun rfl (tr (l_run 1 rfl (lq rfl (q_load_rowA rfl un264 ti264 rfl rfl rfl) (l_run 1 rfl (l_yield (i := nn) g (wanted_n rfl) rfl rfl rfl rfl rfl hY ((drop_step hdr).2.1) hcd rfl (fun g hcd hle => ?_) (fun g hcx hle => ?_))))))
   ·have hvr := hvr.mono hle
    have hJ := hJ.trans hle
    refine lrun rfl (t_cond rfl (fun hc5 => ?_) (fun hc5 => ?_))
    ·simp at hc5
    ·simp at hc5
     refine t_skip (n_block (n_then (t_region (l_runA rfl (n_roundE ((q.drop k, cutV 2 k q.length vq, false, nn + 1, g)) ?_ ?_ (sub_rfl rfl) (sub_rfl rfl) (fun _ h => by dsimp only; exact subC_st h))))))
     ·dsimp only; exact ⟨(drop_step hdr).1, hcd, hJ, (drop_step hdr).2.2, hvr, by rw [List.length_drop]; omega⟩
     ·dsimp only
      show (q.drop k).length < q.length; rw [List.length_drop]; omega
   ·have hJ := hJ.trans hle
    refine lrun rfl (t_cond rfl (fun hc6 => ?_) (fun hc6 => ?_))
    ·simp at hc6
     refine tret (n_ret0 rfl (fun w' hw => ?_)); exact ⟨_, rfl, g, .inr ⟨nn + 1, (drop_step hdr).1, hcx⟩, hJ, hw0.rebase (subC_st hw)⟩
    ·simp at hc6
 ·have h0 : (decide ((0 : Int) < (q.length : Int)) && (fi || !startsP q [93])) = false := hc0
  have hend : memsG q fi = [] := by
   by_cases hqn : q = []
   ·subst hqn; rfl
   ·have := List.length_pos_iff.2 hqn
    rw [memsG_eq hqn, if_pos]
    have h1 : decide ((0 : Int) < (q.length : Int)) = true := by rw [decide_eq_true_eq]; omega
    rw [h1, Bool.true_and] at h0
    cases fi <;> simp_all
  rw [hend] at hdr; refine t_exit (n_exit_then (n_exit_then (n_exit_block (n_end0 rfl (fun w' hw => ?_))))); exact ⟨_, rfl, g, .inl (by rw [← drop_end hdr hn]; exact hcd), hJ, hw0.rebase (subC_st hw)⟩
end Go.Tri

/-
 A bracket.
-/
namespace Go.Tri
open Go.Proofs Go.RowKit
set_option maxRecDepth 10000
def BrR (p : List Ch) (c : UInt8) (I : Look) (r : Value) : Prop := ∃ f vr ok, r = .tuple #[.bool f, vr, .bool ok] ∧ ((ok = true ∧ ∃ b, bracketP p c = some (f, b) ∧ Sl I 2 vr (b.map chC)) ∨ (ok = false ∧ bracketP p c = none))
def OneR (p : List Ch) (c : UInt8) (I : Look) (r : Value) : Prop := ∃ vr, r = .tuple #[.bool (oneP p c).1, vr] ∧ Sl I 2 vr ((oneP p c).2.map chC)
theorem memVs_two : ∀ (n : Nat) (v : Value) (l : List (Mem × Nat)), ∀ vs ∈ memVs n v l, vs.length = [22, 23].length
 | _, _, [], _, h => by cases h
 | n, v, (m, k) :: r, vs, h => by
  rw [memVs] at h; rcases List.mem_cons.1 h with rfl | h
  ·rfl
  ·exact memVs_two _ _ r vs h
theorem mem_round {xs : List (List Value)} {nn : Nat} {q : List Ch} {vq : Value} {fi : Bool} {vs : List Value} (hdr : xs.drop nn = memVs q.length vq (memsG q fi)) (hi : xs[nn]? = some vs) :
  q ≠ [] ∧ (!fi && startsP q [93]) = false ∧ vs = [.agg (memC (memP q).1).toArray, cutV 2 (memP q).2 q.length vq] ∧ xs.drop (nn + 1) = memVs (q.drop (memP q).2).length (cutV 2 (memP q).2 q.length vq) (memsG (q.drop (memP q).2) false) := by
 obtain ⟨hlt, hx⟩ := List.getElem?_eq_some_iff.1 hi
 have h1 := List.drop_eq_getElem_cons hlt
 rw [hx, hdr] at h1
 by_cases hq : q = []
 ·subst hq; cases h1
 ·by_cases hst : (!fi && startsP q [93]) = true
  ·rw [memsG_eq hq, if_pos hst] at h1; cases h1
  ·have hst : (!fi && startsP q [93]) = false := by simpa using hst
   rw [memVs_step hq fi hst] at h1
   injection h1 with h2 h3
   exact ⟨hq, hst, h2.symm, h3.symm⟩
theorem mem_end {q : List Ch} {vq : Value} {fi : Bool} (h : memVs q.length vq (memsG q fi) = []) : q = [] ∨ (fi = false ∧ startsP q [93] = true) := by
 by_cases hq : q = []
 ·exact .inl hq
 ·by_cases hst : (!fi && startsP q [93]) = true
  ·right; cases fi <;> simp_all
  ·have hst : (!fi && startsP q [93]) = false := by simpa using hst
   rw [memVs_step hq fi hst] at h; cases h
theorem bracket_X (v : Value) (p : List Ch) (c : UInt8) (I : Look) (w : World) (hI : Le I (look w)) (hp : p.length ≤ 4611686018427387904) (hp0 : p ≠ []) (hv : Sl I 2 v (p.map chC)) : PureX Tryz.prog 141 [v, u8 c] w (BrR p c I) := by
 have hpl := List.length_pos_iff.2 hp0
 have hd1 := hv.dropM (l := 1) rfl (by omega)
 refine enterMN Tryz.func141 rfl Tryz.ntmps141 rfl (St.start w (look w) (Le.refl _)) (tr (le rfl (e_box rfl rfl (by rfl)) ?_)); rintro _ _ _ ⟨b3, rfl, rfl, rfl⟩; refine le rfl (e_alloc rfl ti4 rfl) ?_; rintro _ _ _ ⟨b4, rfl, rfl, rfl⟩; refine lrun rfl (tr (l_run 1 rfl (lq rfl ((by exact q_slice_from rfl un55 ti92 rfl rfl (Sl.lenOf hv (List.length_map _)) (by omega))) ?_))); refine lrun rfl (tr (l_run 1 rfl (lq rfl (qc rfl rfl rfl ((fun w hw => pstarts_pure _ (p.drop 1) [33] w (by rw [List.length_drop]; omega) (by decide) (hd1.mono (hI.trans (Le.of_st hw)))))) ?_))); refine lrun rfl (t_cutE (ι := Value × List Ch) (fun zz => zz.2 = (if startsP (p.drop 1) [33] then p.drop 2 else p.drop 1) ∧ Sl I 2 zz.1 (zz.2.map chC) ∧ zz.2.length ≤ p.length) (fun zz => [(7, zz.1)]) [(0, _), (1, _), (3, _), (4, _), (5, _), (6, _), (8, _)] (fun zz => (look w)) (fun zz => [row b3 5 [u8 c], row b4 4 [.bool false]]) (sub_rfl rfl) ?_ ?_)
 ·refine trun rfl (t_cond rfl (fun hc0 => ?_) (fun hc0 => ?_))
  ·have h1l := startsP_len hc0
   replace h1l : 1 ≤ (p.drop 1).length := h1l
   refine t_region (l_run 1 rfl (lq rfl ((by exact q_slice_from rfl un55 ti92 rfl rfl (Sl.lenOf hd1 (List.length_map _)) (by omega))) ?_)); refine l_runA rfl (n_cut ((cutV 2 1 (p.drop 1).length (cutV 2 1 p.length v), (p.drop 1).drop 1)) ?_ (sub_rfl rfl) (sub_rfl rfl) (fun _ h => by dsimp only; exact subC_st h))
   ·dsimp only; refine ⟨by rw [if_pos hc0, List.drop_drop], hd1.dropM rfl h1l, by simp only [List.length_drop]; omega⟩
  ·refine t_skip (n_cut ((cutV 2 1 p.length v, p.drop 1)) ?_ (sub_rfl rfl) (sub_rfl rfl) (fun _ h => by dsimp only; exact subC_st h))
   ·dsimp only; refine ⟨by rw [hc0, if_neg (by simp)], hd1, by simp only [List.length_drop]; omega⟩
 rintro ⟨vi, inn⟩ ⟨hinn, hvi, hil⟩; dsimp only at *; refine tr (l_run 1 rfl (le rfl (e_alloc rfl ti55 rfl) ?_)); rintro _ _ _ ⟨b9, rfl, rfl, rfl⟩; refine l_e0 rfl rfl (e_storeS rfl ti55 rfl rfl (by exact hvi.one) rfl (by (simp only [List.set_cons_succ, List.set_cons_zero]; rfl))) ?_; rintro _ _ _ ⟨rfl, rfl⟩; refine lnr (l_run 1 rfl (lec rfl rfl rfl rfl (fun w hw => members_calls vi _ _ _ w hvi.one hw) ?_)); rintro _ J0 _ ⟨hJ0, rfl, b0, rfl, hb0⟩; refine ln (t_block (t_range (γ := List Ch × Value × Bool × Bool) (members_iter inn vi b0 (by omega)) rfl rfl Tryz.func170 (by kernel_rfl) rfl (fun nn zz => brG zz.1 zz.2.2.1 c zz.2.2.2 = brG inn true c false ∧ (memVs inn.length vi (memsG inn true)).drop nn = memVs zz.1.length zz.2.1 (memsG zz.1 zz.2.2.1) ∧ Sl I 2 zz.2.1 (zz.1.map chC) ∧ (zz.2.2.1 = true → zz.1.length = inn.length) ∧ (zz.2.2.1 = false → zz.1.length < inn.length)) (fun _ _ => False) [] (fun zz TT => (row b4 4 [.bool zz.2.2.2] :: row b9 55 [zz.2.1] :: row b3 5 [u8 c] :: TT)) (fun _ _ => rfl) (fun zz => J0) [(7, _), (0, _), (1, _), (3, _), (4, _), (5, _), (6, _), (8, _), (9, _), (21, _)] (sub_rfl rfl) (inn, vi, true, false) ?_ ?_ ?_ ?_ rfl ?_ ?_ ?_ (fun _ _ _ h => h.elim)))
 ·exact ⟨rfl, rfl, hvi, fun _ => rfl, fun h => by cases h⟩
 ·exact ⟨hb0, hvi.mono (hI.trans hJ0)⟩
 ·exact Le.refl _
 ·exact fun _ h => subC_st h
 ·exact memVs_two _ _ _
 ·intro bl ready busy done dfr nn vs gg w0r FF hi hinv hrs hbz; obtain ⟨q, vq, fi, f⟩ := gg; obtain ⟨hbr, hdr, hvq, hf1, hf2⟩ := hinv; dsimp only at *; obtain ⟨hqn, hst, rfl, hdr2⟩ := mem_round hdr hi
  have hk1 := memP_len hqn
  have hk0 := memP_pos q
  have hv2 := hvq.dropM (l := (memP q).2) rfl hk1
  refine tr (le rfl (e_alloc rfl ti264 rfl) ?_); rintro _ _ _ ⟨b10, rfl, rfl, rfl⟩; refine l_e0 rfl rfl ((by exact e_store_all rfl ti264 rfl rfl rfl (by exact memC_ones _) rfl)) ?_; rintro _ _ _ ⟨rfl, rfl⟩; refine ln (t_region (l_runA rfl (n_begin (by rfl) hrs ?_))); refine t_block (tr (l_quietHead 6 (sq rfl (q_ld rfl rfl (by rfl)) ?_))); refine s_run 1 rfl ?_
  refine s_or2 3 1 25 29 28 _ _ rfl rfl rfl rfl rfl rfl (fun h29 => by
    refine sg rfl (q_load_rowA rfl un264 ti264 rfl rfl rfl) (sg rfl (q_ld rfl rfl (by rfl)) ?_); refine sg rfl (qc rfl rfl rfl ((fun w _ => holds_pure (memP q).1 c w))) ?_; exact s_val rfl
   ) (wanted_n rfl) rfl rfl rfl ?_
  refine s_list ?_; refine l_e0 rfl rfl (e_storeS rfl ti4 rfl rfl (by exact ⟨rfl, rfl⟩) rfl (by (simp only [List.set_cons_succ, List.set_cons_zero]; rfl))) ?_; rintro _ _ _ ⟨rfl, rfl⟩; refine ln (t_region (l_run 1 rfl ?_)); refine l_e0 rfl rfl (e_storeS rfl ti55 rfl rfl (by exact hv2.one) rfl (by (simp only [List.set_cons_succ, List.set_cons_zero]; rfl))) ?_; rintro _ _ _ ⟨rfl, rfl⟩; refine l_nil (n_block (n_rnext (fun w' hw' => .inl ⟨rfl, ((q.drop (memP q).2, cutV 2 (memP q).2 q.length vq, false, (f || holdsM (memP q).1 c))), ?_, ?_, ?_⟩)))
  ·dsimp only; refine ⟨?_, hdr2, hv2, (fun h => by cases h), fun _ => ?_⟩
   ·rw [← hbr, brG_eq hqn fi c f, hst, if_neg (by simp)]
   ·have hh : q.length ≤ inn.length := by
     cases fi
     ·exact Nat.le_of_lt (hf2 rfl)
     ·exact Nat.le_of_eq (hf1 rfl)
    rw [List.length_drop]; omega
  ·exact Le.refl _
  ·dsimp only; exact subC_st hw'
 intro bd gg hinv hle; obtain ⟨q, vq, fi, f⟩ := gg; obtain ⟨hbr, hdr, hvq, hf1, hf2⟩ := hinv; dsimp only at *; rw [List.drop_length] at hdr
 have hend := mem_end hdr.symm
 have hql : q.length ≤ inn.length := by
  cases fi
  ·exact Nat.le_of_lt (hf2 rfl)
  ·exact Nat.le_of_eq (hf1 rfl)
 refine n_block (n_then (t_seq (tq (sq rfl (q_ld rfl rfl (by rfl)) ?_)))); refine sq rfl (qc rfl rfl rfl ((fun w hw => pstarts_pure _ q [93] w (by omega) (by decide) (hvq.mono ((hI.trans hJ0).trans (Le.of_st hw)))))) ?_; refine s_run 2 rfl ?_
 refine s_or2 5 3 34 40 39 _ _ rfl rfl rfl rfl rfl rfl (fun h40 => by
   simp at h40
   refine sg rfl (q_ld rfl rfl (by rfl)) ?_; refine sg rfl ((by exact q_len rfl un55 rfl (Sl.lenOf hvq (List.length_map _)))) ?_; refine s_runG 1 rfl ?_; refine sg rfl ((by exact q_len rfl un55 rfl (Sl.lenOf hvi (List.length_map _)))) ?_; refine s_runG 1 rfl ?_; exact s_val rfl
  ) (wanted_n rfl) rfl rfl rfl ?_
 refine sdn (t_cond rfl (fun hc1 => ?_) (fun hc1 => ?_))
 ·refine tr ?_; refine l_e0 rfl rfl (e_storeS rfl ti4 rfl rfl (by exact ⟨rfl, rfl⟩) rfl (by (simp only [List.set_cons_succ, List.set_cons_zero]; rfl))) ?_; rintro _ _ _ ⟨rfl, rfl⟩; refine lrun rfl (t_ret (n_ret_then (n_np_ret (n_retGM (bs := [bd]) (.inl rfl) rfl (by exact res_cell rfl un4 rfl (by exact rd_rowI rfl) (res_tmp rfl (res_tmp rfl (res_nil)))) (fun w' hw => ?_)))))
  have hle := hI.trans hJ0
  refine ⟨_, rfl, ⟨false, _, false, rfl, .inr ⟨rfl, ?_⟩⟩, (hw.less hJ0).below⟩
  have h1 : (!startsP q [93] || decide ((q.length : Int) = (inn.length : Int))) = true := hc1
  have hq0 : q = [] := by
   rcases hend with h | ⟨h2, h3⟩
   ·exact h
   ·have := hf2 h2
    simp only [h3, Bool.not_true, Bool.false_or, decide_eq_true_eq] at h1
    omega
  unfold bracketP; dsimp only; rw [← hinn, ← hbr, hq0]
  rfl
 ·refine tskip (t_seq ?_)
  have hq1 : 1 ≤ q.length := by
   have h1 : (!startsP q [93] || decide ((q.length : Int) = (inn.length : Int))) = false := hc1
   simp only [Bool.or_eq_false_iff, Bool.not_eq_false', decide_eq_false_iff_not] at h1; exact startsP_len h1.1
  refine t_draw [5] [] [row b9 55 [vq]] mo (by kernel_rfl) (fun _ _ _ _ _ h => h) (rq1 0 (by kernel_rfl) rfl rfl (q_ld rfl rfl (by rfl)) ?_); refine r_run [1] (by kernel_rfl) rfl rfl rfl (rq1 2 (by kernel_rfl) rfl rfl (q_neq_bool rfl un4 rfl rfl) (rq0 3 (by kernel_rfl) rfl (Le.refl _) rfl (fun _ hI => q_ld rfl rfl (by rfl)) ?_)); refine rq0 4 (by kernel_rfl) rfl (Le.refl _) rfl (fun _ hI => (by exact q_slice_from rfl un55 ti92 rfl rfl (Sl.lenOf hvq (List.length_map _)) (by omega))) ?_; refine r_e0 5 (by kernel_rfl) (by kernel_rfl) rfl (Le.refl _) rfl rfl (e_storeS rfl ti4 rfl rfl (by exact ⟨rfl, rfl⟩) rfl (by (simp only [List.set_cons_succ, List.set_cons_zero]; rfl))) ?_; rintro _ _ _ ⟨rfl, rfl⟩; refine ⟨Le.refl _, .inr SubC.sub, ?_⟩; refine r_run [6, 7] (by kernel_rfl) rfl rfl rfl (r_end (by kernel_rfl) (n_then (t_ret (n_np_ret (n_retGM (bs := [bd]) (.inl rfl) rfl (by exact res_cell rfl un4 rfl (by exact rd_rowI rfl) (res_tmp rfl (res_tmp rfl (res_nil)))) (fun w' hw => ?_))))))
  have h1 : (!startsP q [93] || decide ((q.length : Int) = (inn.length : Int))) = false := hc1
  simp only [Bool.or_eq_false_iff, Bool.not_eq_false', decide_eq_false_iff_not] at h1
  have hqn : q ≠ [] := by rintro rfl; exact absurd h1.1 (by decide)
  have hfi : fi = false := by
   cases fi with
   | false => rfl
   | true => exact absurd (by rw [hf1 rfl]) h1.2
  refine ⟨_, rfl, ⟨_, _, true, rfl, .inl ⟨rfl, q.drop 1, ?_, hvq.dropM rfl hq1⟩⟩, (hw.less hJ0).below⟩; unfold bracketP; dsimp only; rw [← hinn, ← hbr, brG_eq hqn, hfi, h1.1]
  rfl
end Go.Tri

/-
 A text without a piece.
-/
namespace Go.Tri
open Go.Proofs Go.RowKit
set_option maxRecDepth 10000
theorem startsP_ne {p : List Ch} {b : UInt8} (h : startsP p [b] = true) : p ≠ [] := by rintro rfl; cases h
def pcsVs (n : Nat) (g : Bool) : List (List Value) := (List.range (n + 1)).map fun i => [.int .i64 ((if g then n - i else i : Nat) : Int)]
theorem pcsVs_len (n : Nat) (g : Bool) : (pcsVs n g).length = n + 1 := by simp [pcsVs]
theorem pcsVs_at {n i : Nat} {g : Bool} (h : i < n + 1) : (pcsVs n g)[i]? = some [.int .i64 ((if g then n - i else i : Nat) : Int)] := by simp [pcsVs, h]
theorem pcsVs_inv {n i : Nat} {g : Bool} {vs : List Value} (h : (pcsVs n g)[i]? = some vs) : i < n + 1 ∧ vs = [.int .i64 ((if g then n - i else i : Nat) : Int)] := by
 have h1 := (List.getElem?_eq_some_iff.1 h).1
 rw [pcsVs_len] at h1; rw [pcsVs_at h1] at h; exact ⟨h1, (Option.some.inj h).symm⟩
theorem cutOk_no {p : List Ch} {s : List UInt8} {e lg : Bool} {nn m : Nat} (hm : m = cutLen s lg nn) (e1 : ((s.length : Int) - (m : Int)).toNat = s.length - m) (h0 : (e && Mt p (s.drop ((s.length : Int) - (m : Int)).toNat)) = false) (h1 : (!e && Mt p (s.take ((m : Int)).toNat)) = false) : cutOk p s e lg nn = false := by
 unfold cutOk; rw [← hm]; rw [e1] at h0
 cases e
 ·simpa using h1
 ·simpa using h0
theorem cut_t {p : List Ch} {s : List UInt8} {e lg : Bool} {nn m : Nat} (hm : m = cutLen s lg nn) (e1 : ((s.length : Int) - (m : Int)).toNat = s.length - m) (hn : nn ≤ s.length) (hno : ∀ j, j < nn → cutOk p s e lg j = false) (h0 : (e && Mt p (s.drop ((s.length : Int) - (m : Int)).toNat)) = true) : s.take ((s.length : Int) - (m : Int)).toNat = cutP p s e lg := by
 rw [Bool.and_eq_true, e1] at h0; obtain ⟨rfl, h0⟩ := h0; rw [cutP_hit hn hno (by unfold cutOk; rw [if_pos rfl, ← hm]; exact h0), cutRes, if_pos rfl, ← hm, e1]
theorem cut_f {p : List Ch} {s : List UInt8} {e lg : Bool} {nn m : Nat} (hm : m = cutLen s lg nn) (hn : nn ≤ s.length) (hno : ∀ j, j < nn → cutOk p s e lg j = false) (h0 : (!e && Mt p (s.take ((m : Int)).toNat)) = true) : s.drop ((m : Int)).toNat = cutP p s e lg := by
 rw [Bool.and_eq_true, Bool.not_eq_true'] at h0; obtain ⟨rfl, h0⟩ := h0
 have h1 : Mt p (s.take m) = true := h0
 rw [cutP_hit hn hno (by unfold cutOk; rw [if_neg (by simp), ← hm]; exact h1), cutRes, if_neg (by simp), ← hm]
 rfl
theorem one_X (v : Value) (p : List Ch) (c : UInt8) (I : Look) (w : World) (hI : Le I (look w)) (hp : p.length ≤ 4611686018427387904) (hp0 : p ≠ []) (hv : Sl I 2 v (p.map chC)) : PureX Tryz.prog 114 [v, u8 c] w (OneR p c I) := by
 have hpl := List.length_pos_iff.2 hp0
 have hvw := hv.mono hI
 have hd1 := hv.dropM (l := 1) rfl hpl
 refine enter Tryz.func114 rfl Tryz.ntmps114 rfl (St.start w (look w) (Le.refl _)) (trun rfl (t_seq (t_block (tr (l_run 1 rfl (lq rfl (qc rfl rfl rfl ((fun w hw => pstarts_pure v p [63] w (by omega) (by decide) (hv.mono (hI.trans (Le.of_st hw)))))) ?_)))))); refine lrun rfl (t_cond rfl (fun hc0 => ?_) (fun hc0 => ?_))
 ·refine t_seq (t_qdraw mo (by kernel_rfl) (fun _ _ _ _ _ h => h) (s_run 1 rfl (sq rfl ((by exact q_slice_from rfl un55 ti92 rfl rfl (Sl.lenOf hv (List.length_map _)) (by omega))) ?_))); refine s_run 2 rfl (sdn (tret (n_ret2 rfl rfl rfl (fun w' hw => ?_)))); refine ⟨_, rfl, ?_, hw.below⟩
  have h1 : oneP p c = (true, p.drop 1) := by rw [oneP, if_pos hc0]
  exact ⟨_, by rw [h1], by rw [h1]; exact hd1⟩
 ·refine tr (l_run 1 rfl (lq rfl (qc rfl rfl rfl ((fun w hw => pstarts_pure v p [91] w (by omega) (by decide) (hv.mono (hI.trans (Le.of_st hw)))))) ?_)); refine lrun rfl (t_cond rfl (fun hc1 => ?_) (fun hc1 => ?_))
  ·refine tr (l_run 2 rfl (le rfl (eff_callX rfl rfl rfl Tryz.func141 (by kernel_rfl) rfl (fun w hw => bracket_X v p c I w (hI.trans (Le.of_st hw)) hp hp0 hv)) ?_)); rintro _ _ _ ⟨⟨fo, vr, ok, rfl, hbr⟩, rfl, rfl⟩; refine lrun rfl (trun rfl (t_cond rfl (fun hc2 => ?_) (fun hc2 => ?_)))
   ·refine trun rfl (tret (n_ret2 rfl rfl rfl (fun w' hw => ?_))); refine ⟨_, rfl, ?_, hw.below⟩; rcases hbr with ⟨_, b, hb, hsl⟩ | ⟨h, _⟩
    ·have h1 : oneP p c = (fo, b) := by rw [oneP, if_neg (by rw [hc0]; simp), if_pos hc1, hb]
     exact ⟨vr, by rw [h1]; try rfl, by rw [h1]; exact hsl⟩
    ·rw [h] at hc2; cases hc2
   ·refine t_skip (n_block (n_then (t_seq (t_qdraw mo (by kernel_rfl) (fun _ _ _ _ _ h => h) (s_run 1 rfl ?_))))); refine sq rfl ((by exact q_indexAddrN rfl un55 ti92 rfl rfl (Sl.shape hv (List.length_map _)) (by omega))) ?_; refine s_run 1 rfl (sq rfl ((by exact q_ldr rfl rfl (rd_ch_b0 (i := 0) hvw (by omega)))) ?_); refine s_run 1 rfl (sq rfl (q_eql_u8 rfl rfl rfl) (s_run 1 rfl (sq rfl ((by exact q_slice_from rfl un55 ti92 rfl rfl (Sl.lenOf hv (List.length_map _)) (by omega))) ?_))); refine s_run 2 rfl (sdn (t_ret (n_ret2 rfl rfl rfl (fun w' hw => ?_)))); refine ⟨_, rfl, ?_, hw.below⟩; rcases hbr with ⟨h, _⟩ | ⟨_, hb⟩
    ·rw [h] at hc2; cases hc2
    ·have h1 : oneP p c = (decide ((nth p 0 ch0).b = c), p.drop 1) := by rw [oneP, if_neg (by rw [hc0]; simp), if_pos hc1, hb]
     exact ⟨cutV 2 1 p.length v, by rw [h1]; rfl, by rw [h1]; exact hd1⟩
  ·refine t_skip (n_block (n_then (t_seq (t_qdraw mo (by kernel_rfl) (fun _ _ _ _ _ h => h) (s_run 1 rfl ?_))))); refine sq rfl ((by exact q_indexAddrN rfl un55 ti92 rfl rfl (Sl.shape hv (List.length_map _)) (by omega))) ?_; refine s_run 1 rfl (sq rfl ((by exact q_ldr rfl rfl (rd_ch_b0 (i := 0) hvw (by omega)))) ?_); refine s_run 1 rfl (sq rfl (q_eql_u8 rfl rfl rfl) (s_run 1 rfl (sq rfl ((by exact q_slice_from rfl un55 ti92 rfl rfl (Sl.lenOf hv (List.length_map _)) (by omega))) ?_))); refine s_run 2 rfl (sdn (t_ret (n_ret2 rfl rfl rfl (fun w' hw => ?_)))); refine ⟨_, rfl, ?_, hw.below⟩
   have h1 : oneP p c = (decide ((nth p 0 ch0).b = c), p.drop 1) := by rw [oneP, if_neg (by rw [hc0]; simp), if_neg (by rw [hc1]; simp)]
   exact ⟨cutV 2 1 p.length v, by rw [h1]; rfl, by rw [h1]; exact hd1⟩
theorem match_pure (v : Value) (p : List Ch) (s0 : List UInt8) (w : World) (hp : p.length ≤ 4611686018427387904) (hs : s0.length ≤ 4611686018427387904) (hv : Sl (look w) 2 v (p.map chC)) : Pure Tryz.prog 94 [v, str s0] w (.bool (Mt p s0)) := by
 refine enter Tryz.func94 rfl Tryz.ntmps94 rfl (St.start w (look w) (Le.refl _)) (trun rfl (trun rfl (trun rfl (t_seq (t_block (t_loopE (ι := List Ch × Value × List UInt8 × List Ch × Value × List UInt8 × Bool) (fun zz => MInv p s0 zz.2.2.2.2.2.2 zz.2.2.2.1 zz.2.2.2.2.2.1 zz.1 zz.2.2.1 ∧ Sl (look w) 2 zz.2.1 (zz.1.map chC) ∧ (zz.2.2.2.2.2.2 = true → Sl (look w) 2 zz.2.2.2.2.1 (zz.2.2.2.1.map chC)) ∧ zz.1.length ≤ p.length ∧ zz.2.2.2.1.length ≤ p.length ∧ zz.2.2.1.length ≤ s0.length ∧ zz.2.2.2.2.2.1.length ≤ s0.length ∧ (zz.2.2.2.2.2.2 = true → zz.2.2.1.length ≤ zz.2.2.2.2.2.1.length)) (fun zz => (if zz.2.2.2.2.2.2 then zz.2.2.2.2.2.1.length else s0.length + 1) * (p.length + s0.length + 1) + (zz.1.length + zz.2.2.1.length)) (fun zz => [(0, zz.2.1), (1, str zz.2.2.1), (5, zz.2.2.2.2.1), (6, str zz.2.2.2.2.2.1), (7, .bool zz.2.2.2.2.2.2)]) [] (fun zz => look w) (fun zz => []) (p, v, s0, [], .slice none 0 0, [], false) ?_ (sub_rfl rfl) (sub_nil) (fun _ h => subC_st h) ?_))))))
 ·dsimp only; exact ⟨MInv.start p s0, hv, (fun h => by cases h), Nat.le_refl _, Nat.zero_le _, Nat.le_refl _, Nat.zero_le _, fun h => by cases h⟩
 rintro ⟨q, vq, s, ag, va, fr, star⟩ ⟨hm, hvq, hva, hq, hag, hsl, hfr, hsf⟩; dsimp only at *; refine t_seq (tq (s_run 1 rfl (sq rfl (q_neq_str rfl rfl rfl) (s_run 1 rfl ?_))))
 refine s_or2 3 2 12 16 15 _ _ rfl rfl rfl rfl rfl rfl (fun h16 => by
   simp at h16
   refine s_runG 1 rfl ?_; refine sg rfl ((by exact q_len rfl un55 rfl (Sl.lenOf hvq (List.length_map _)))) ?_; refine s_runG 1 rfl ?_; exact s_val rfl
  ) (wanted_n rfl) rfl rfl rfl ?_
 refine sdn (t_cond rfl (fun hc0 => ?_) (fun hc0 => ?_))
 ·have h0 : (decide (s ≠ []) || decide ((0 : Int) < (q.length : Int))) = true := hc0
  have hne : ¬ (q = [] ∧ s = []) := by rintro ⟨rfl, rfl⟩; simp at h0
  refine tskip (t_block (t_seq (tr (l_run 1 rfl (lq rfl (qc rfl rfl rfl ((fun w hw => pstarts_pure vq q [42] w (by omega) (by decide) (hvq.mono (Le.of_st hw))))) ?_))))); refine ln (t_cond rfl (fun hc1 => ?_) (fun hc1 => ?_))
  ·have hqn : q ≠ [] := startsP_ne hc1
   have hq1 := List.length_pos_iff.2 hqn
   have hd1 := hvq.dropM (l := 1) rfl hq1
   refine tr (l_run 1 rfl (lq rfl ((by exact q_slice_from rfl un55 ti92 rfl rfl (Sl.lenOf hvq (List.length_map _)) (by omega))) ?_)); refine lrun rfl (trun rfl (t_exit (n_exit_then (n_exit_block (n_roundE ((q.drop 1, cutV 2 1 q.length vq, s, q.drop 1, cutV 2 1 q.length vq, s, true)) ?_ ?_ (sub_rfl rfl) (sub_nil) (fun _ h => by dsimp only; exact subC_st h))))))
   ·dsimp only; exact ⟨hm.star hc1, hd1, fun _ => hd1, by rw [List.length_drop]; omega, by rw [List.length_drop]; omega, hsl, hsl, fun _ => Nat.le_refl _⟩
   ·dsimp only; rw [if_pos rfl, List.length_drop]; refine Nat.lt_of_lt_of_le (Nat.add_lt_add_left (show q.length - 1 + s.length < q.length + s.length by omega) _) (Nat.add_le_add_right (Nat.mul_le_mul_right _ ?_) _)
    split
    ·exact hsf ‹_›
    ·omega
  ·refine tskip (t_cutE (ι := Unit) (fun zz => (q ≠ [] → s ≠ [] → (oneP q (nth s 0 0)).1 = false)) (fun zz => []) [(5, _), (6, _), (7, _), (16, _), (18, _)] (fun zz => look w) (fun zz => []) (sub_rfl rfl) ?_ ?_)
   ·refine tq (s_run 1 rfl ?_); refine sq rfl ((by exact q_len rfl un55 rfl (Sl.lenOf hvq (List.length_map _)))) ?_; refine s_run 2 rfl ?_
    refine s_and2 2 3 26 29 28 _ _ rfl rfl rfl rfl rfl rfl (fun h29 => by
      simp at h29
      refine s_runG 1 rfl (sg rfl (q_neq_str rfl rfl rfl) ?_); exact s_val rfl
     ) (wanted_n rfl) rfl rfl rfl ?_
    refine sdn (t_cond rfl (fun hc2 => ?_) (fun hc2 => ?_))
    ·have h2 : (decide ((0 : Int) < (q.length : Int)) && decide (s ≠ [])) = true := hc2
     rw [Bool.and_eq_true, decide_eq_true_eq, decide_eq_true_eq] at h2
     have hqn : q ≠ [] := List.ne_nil_of_length_pos (by omega)
     have hsn := h2.2
     have hs1 := List.length_pos_iff.2 hsn
     have hol := oneP_len hqn (nth s 0 0)
     refine tr (l_run 2 rfl (lq rfl ((by exact q_index_strN rfl un9 rfl rfl (by omega))) ?_)); refine le rfl (eff_callX rfl rfl rfl Tryz.func114 (by kernel_rfl) rfl (fun w hw => one_X vq q (nth s 0 0) _ w (Le.of_st hw) (by omega) hqn hvq)) ?_; rintro _ _ _ ⟨⟨vr, rfl, hvr⟩, rfl, rfl⟩; refine lrun rfl (trun rfl (t_cond rfl (fun hc3 => ?_) (fun hc3 => ?_)))
     ·refine t_seq (t_qdraw mo (by kernel_rfl) (fun _ _ _ _ _ h => h) (s_run 2 rfl (sq rfl (q_slice_str_from rfl un9 rfl rfl (by omega)) ?_))); refine s_run 2 rfl (sdn (t_exit (n_exit_then (n_exit_block (n_roundE (((oneP q (nth s 0 0)).2, vr, s.drop 1, ag, va, fr, star)) ?_ ?_ (sub_rfl rfl) (sub_nil) (fun _ h => by dsimp only; exact subC_st h))))))
      ·dsimp only; exact ⟨hm.one hqn hc1 hsn hc3, hvr, hva, by omega, hag, by rw [List.length_drop]; omega, hfr, fun h => by have := hsf h; rw [List.length_drop]; omega⟩
      ·dsimp only; refine Nat.add_lt_add_left ?_ _
       rw [List.length_drop]; omega
     ·refine t_skip (n_cut (()) ?_ (sub_nil) (sub_rfl rfl) (fun _ h => by dsimp only; exact subC_st h))
      ·exact fun _ _ => hc3
    ·refine t_skip (n_cut (()) ?_ (sub_nil) (sub_rfl rfl) (fun _ h => by dsimp only; exact subC_st h))
     ·intro h1 h2
      exfalso
      have h3 := List.length_pos_iff.2 h1
      have h : (decide ((0 : Int) < (q.length : Int)) && decide (s ≠ [])) = false := hc2
      simp [h2] at h
      exact h1 h
   rintro u hno; refine t_seq (tq (s_run 3 rfl ?_))
   refine s_or2 2 2 43 46 45 _ _ rfl rfl rfl rfl rfl rfl (fun h46 => by
     simp at h46
     refine s_runG 1 rfl (sg rfl (q_eql_str rfl rfl rfl) ?_); exact s_val rfl
    ) (wanted_n rfl) rfl rfl rfl ?_
   refine sdn (t_cond rfl (fun hc4 => ?_) (fun hc4 => ?_))
   ·have h4 : (!star || decide (fr = [])) = true := hc4
    have hstk := Mt_stuck hne hc1 hno
    refine trun rfl (tret (n_ret1 rfl rfl (fun w' hw => ?_))); refine ⟨?_, hw.below⟩; rw [hm.fail hstk (by simpa using h4)]
   ·have h4 : (!star || decide (fr = [])) = false := hc4
    simp at h4
    have hst2 := h4.1
    have hfn := h4.2
    have hf1 := List.length_pos_iff.2 hfn
    have hstk := Mt_stuck hne hc1 hno
    refine tskip (tr (l_run 1 rfl (lq rfl (q_slice_str_from rfl un9 rfl rfl (by omega)) ?_))); refine lrun rfl (t_region (l_runA rfl (n_block (n_roundE ((ag, va, fr.drop 1, ag, va, fr.drop 1, star)) ?_ ?_ (sub_rfl rfl) (sub_nil) (fun _ h => by dsimp only; exact subC_st h)))))
    ·dsimp only; exact ⟨(hst2 ▸ hm).back hstk hfn |> (hst2 ▸ ·), hva hst2, hva, hag, hag, by rw [List.length_drop]; omega, by rw [List.length_drop]; omega, fun _ => Nat.le_refl _⟩
    ·dsimp only; rw [hst2, if_pos rfl, if_pos rfl, List.length_drop]; exact mu_step (by have := List.length_pos_iff.2 hfn; omega) hag (by omega) _ (Nat.zero_le _)
 ·have h0 : (decide (s ≠ []) || decide ((0 : Int) < (q.length : Int))) = false := hc0
  simp at h0
  refine t_exit (n_exit_then (n_exit_then (n_exit_block (n_then (trun rfl (t_ret (n_ret1 rfl rfl (fun w' hw => ?_)))))))); refine ⟨?_, hw.below⟩; obtain ⟨rfl, rfl⟩ := h0; rw [hm.done rfl]
theorem pieces_iter (n : Nat) (lg : Bool) (b1 b2 : Nat) (hn : n ≤ 4611686018427387904) : Iterates Tryz.prog 112 [.pointer (some ⟨b1, 0, none⟩), .pointer (some ⟨b2, 0, none⟩)] (pcsVs n lg) (fun I => CellI I b1 0 (.int .i64 (n : Int)) ∧ CellI I b2 0 (.bool lg)) := by
 intro γ Cd Cx G II lid hY w0 g00 F w hcd0 ⟨hb1, hb2⟩ hw0
 have hJ := Le.refl (II g00)
 refine enter Tryz.func112 rfl Tryz.ntmps112 rfl (hw0.self) (tr (lq rfl ((by exact q_ldr rfl rfl (rd_imm (hb1.mono hJ)))) ?_)); refine lq rfl (q_add64 rfl rfl rfl (by omega)) ?_; refine lrun rfl (t_block (t_loopE (ι := Nat × γ) (fun zz => zz.1 ≤ n + 1 ∧ Cd zz.1 zz.2 ∧ Le (II g00) (II zz.2)) (fun zz => n + 1 - zz.1) (fun zz => [(7, .int .i64 (zz.1 : Int))]) [(0, _), (1, _), (2, _), (6, _)] (fun zz => (II zz.2)) (fun zz => (F ++ G zz.2)) (0, g00) ?_ (sub_rfl rfl) (sub_rfl rfl) (fun _ h => subC_st h) ?_))
 ·dsimp only; exact ⟨Nat.zero_le _, hcd0, Le.refl _⟩
 rintro ⟨i, g⟩ ⟨hi, hcd, hJ⟩; dsimp only at *; refine trun rfl (t_seq (t_cond rfl (fun hc0 => ?_) (fun hc0 => ?_)))
 ·simp at hc0
  refine tskip (t_seq (t_block (trun rfl (t_cutE (ι := Nat) (fun zz => zz = (if lg then n - i else i)) (fun zz => [(4, .int .i64 (zz : Int))]) [(7, _), (0, _), (1, _), (2, _), (6, _), (8, _)] (fun zz => (II g)) (fun zz => (F ++ G g)) (sub_rfl rfl) ?_ ?_))))
  ·refine tr (lq rfl ((by exact q_ldr rfl rfl (rd_imm (hb2.mono hJ)))) ?_); refine ln (t_cond rfl (fun hc1 => ?_) (fun hc1 => ?_))
   ·refine t_region (lq rfl ((by exact q_ldr rfl rfl (rd_imm (hb1.mono hJ)))) ?_); refine l_run 1 rfl (lq rfl (q_sub64 rfl rfl rfl (by omega)) ?_); refine l_runA rfl (n_cut (n - i) ?_ (sub_cons' rfl (by congr 1; omega) (sub_nil)) (sub_rfl rfl) (fun _ h => by dsimp only; exact subC_st h))
    ·rw [hc1, if_pos rfl]
   ·refine t_skip (n_cut (i) ?_ (sub_rfl rfl) (sub_rfl rfl) (fun _ h => by dsimp only; exact subC_st h))
    ·rw [hc1, if_neg (by simp)]
  rintro m hm; dsimp only at *; refine tr (l_run 2 rfl (l_yield (i := i) g (wanted_n rfl) rfl rfl rfl rfl rfl hY (hm ▸ pcsVs_at (by omega)) hcd rfl (fun g hcd hle => ?_) (fun g hcx hle => ?_)))
  ·have hJ := hJ.trans hle
   refine lrun rfl (t_cond rfl (fun hc2 => ?_) (fun hc2 => ?_))
   ·simp at hc2
   ·simp at hc2
    refine t_skip (n_block (n_then (t_region (lq rfl (q_add64 rfl rfl rfl (by omega)) ?_)))); refine l_runA rfl (n_roundE ((i + 1, g)) ?_ ?_ (sub_rfl rfl) (sub_rfl rfl) (fun _ h => by dsimp only; exact subC_st h))
    ·dsimp only; exact ⟨by omega, hcd, hJ⟩
    ·dsimp only
     omega
  ·have hJ := hJ.trans hle
   refine lrun rfl (t_cond rfl (fun hc3 => ?_) (fun hc3 => ?_))
   ·simp at hc3
    refine tret (n_ret0 rfl (fun w' hw => ?_)); exact ⟨_, rfl, g, .inr ⟨i + 1, by rw [pcsVs_len]; omega, hcx⟩, hJ, hw0.rebase (subC_st hw)⟩
   ·simp at hc3
 ·simp at hc0
  refine t_exit (n_exit_then (n_exit_then (n_exit_block (n_end0 rfl (fun w' hw => ?_))))); exact ⟨_, rfl, g, .inl (by rw [pcsVs_len, ← show i = n + 1 by omega]; exact hcd), hJ, hw0.rebase (subC_st hw)⟩
theorem pieces_calls (n : Int) (lg : Bool) (I : Look) (F : List HA) (w0 w : World) (hw0 : St w0 I F w) : Calls Tryz.prog 93 [.int .i64 n, .bool lg].toArray w (fun e w' => ∃ v, e = .returned v ∧ ∃ I' H', (Le I I' ∧ F = H' ∧ ∃ b1 b2, v = .func (.func 112) #[] #[.pointer (some ⟨b1, 0, none⟩), .pointer (some ⟨b2, 0, none⟩)] ∧ CellI I' b1 0 (.int .i64 n) ∧ CellI I' b2 0 (.bool lg)) ∧ St w I' H' w') := by
 refine enter Tryz.func93 rfl Tryz.ntmps93 rfl (hw0.self) (tr (le rfl (e_box rfl rfl (by rfl)) ?_)); rintro _ _ _ ⟨b2, rfl, rfl, rfl⟩; refine le rfl (e_box rfl rfl (by rfl)) ?_; rintro _ _ _ ⟨b3, rfl, rfl, rfl⟩; refine lrun rfl (t_seq (t_freezeRow b2 (fun J hJ h1 => ?_))); refine t_freezeRow b3 (fun J2 hJ2 h2 => ?_); refine t_region (lq rfl (q_makeFunc rfl rfl rfl) (lrun rfl (t_ret (n_ret1 rfl rfl (fun w' hw => ?_))))); exact ⟨_, rfl, J2, _, ⟨hJ.trans hJ2, rfl, b2, b3, rfl, (h1 0 _ rfl).mono hJ2, h2 0 _ rfl⟩, hw⟩
theorem cut_pure (v : Value) (p : List Ch) (s : List UInt8) (e lg : Bool) (w : World) (hp : p.length ≤ 4611686018427387904) (hs : s.length ≤ 4611686018427387904) (hv : Sl (look w) 2 v (p.map chC)) : Pure Tryz.prog 73 [v, str s, .bool e, .bool lg] w (str (cutP p s e lg)) := by
 refine enterMN Tryz.func73 rfl Tryz.ntmps73 rfl (St.start w (look w) (Le.refl _)) (tr (le rfl (e_box rfl rfl (by exact One.cells hv.one)) ?_)); rintro _ _ _ ⟨b4, rfl, rfl, rfl⟩; refine le rfl (e_box rfl rfl (by rfl)) ?_; rintro _ _ _ ⟨b5, rfl, rfl, rfl⟩; refine le rfl (e_box rfl rfl (by rfl)) ?_; rintro _ _ _ ⟨b6, rfl, rfl, rfl⟩; refine le rfl (e_alloc rfl ti9 rfl) ?_; rintro _ _ _ ⟨b8, rfl, rfl, rfl⟩; refine lnr (lq rfl (q_ld rfl rfl (by rfl)) ?_); refine lq rfl (q_len_str rfl un9 rfl) (l_run 1 rfl (lec rfl rfl rfl rfl (fun w hw => pieces_calls _ lg _ _ _ w hw) ?_)); rintro _ J0 _ ⟨hJ0, rfl, b1, b2, rfl, hb1, hb2⟩; refine ln (t_block (t_range (γ := List UInt8) (pieces_iter s.length lg b1 b2 hs) rfl rfl Tryz.func112 (by kernel_rfl) rfl (fun nn zz => zz = [] ∧ ∀ j, j < nn → cutOk p s e lg j = false) (fun cc zz => (cc = .ret ∧ zz = cutP p s e lg)) [] (fun zz TT => (row b4 55 [v] :: row b5 9 [str s] :: row b6 4 [.bool e] :: row b8 9 [str zz] :: TT)) (fun _ _ => rfl) (fun zz => J0) [(0, _), (1, _), (2, _), (3, _), (4, _), (5, _), (6, _), (8, _), (13, _)] (sub_rfl rfl) [] ?_ ?_ ?_ ?_ rfl ?_ ?_ ?_ ?_))
 ·exact ⟨rfl, fun j hj => absurd hj (Nat.not_lt_zero j)⟩
 ·exact ⟨hb1, hb2⟩
 ·exact Le.refl _
 ·exact fun _ h => subC_st h
 ·intro vs hvs; obtain ⟨x, _, rfl⟩ := List.mem_map.1 hvs; rfl
 ·intro bl ready busy done dfr nn vs r w0r FF hi hinv hrs hbz; obtain ⟨rfl, hno⟩ := hinv; dsimp only at *; obtain ⟨hnn, rfl⟩ := pcsVs_inv hi
  have hm0 := cutLen_le (s := s) (g := lg) (i := nn) (by omega)
  obtain ⟨m, hm⟩ : ∃ m, m = cutLen s lg nn := ⟨_, rfl⟩; rw [show (if lg then s.length - nn else nn) = m from hm.symm]; rw [← hm] at hm0
  have e1 : ((s.length : Int) - (m : Int)).toNat = s.length - m := by omega
  refine t_region (l_runA rfl (n_begin (by rfl) hrs ?_)); refine t_block (t_block (t_seq (t_qdraw mo (by kernel_rfl) (fun _ _ _ _ _ h => h) (sq rfl (q_ld rfl rfl (by rfl)) ?_)))); refine s_run 1 rfl ?_
  refine s_and2 8 1 17 26 25 _ _ rfl rfl rfl rfl rfl rfl (fun h26 => by
    refine sg rfl (q_ld rfl rfl (by rfl)) ?_; refine sg rfl (q_ld rfl rfl (by rfl)) ?_; refine sg rfl (q_ld rfl rfl (by rfl)) ?_; refine sg rfl (q_len_str rfl un9 rfl) (s_runG 1 rfl (sg rfl (q_sub64 rfl rfl rfl (by omega)) ?_)); refine sg rfl (q_slice_str_from rfl un9 rfl rfl (by omega)) ?_; refine sg rfl (qc rfl rfl rfl ((fun w hw => match_pure v p (s.drop ((s.length : Int) - (m : Int)).toNat) w hp (by simp; omega) (hv.mono (hJ0.trans (Le.of_st hw)))))) ?_; exact s_val rfl
   ) (wanted_n rfl) rfl rfl rfl ?_
  refine s_run 1 rfl (sdn (t_cond rfl (fun hc0 => ?_) (fun hc0 => ?_)))
  ·refine tr (lq rfl (q_ld rfl rfl (by rfl)) ?_); refine lq rfl (q_ld rfl rfl (by rfl)) ?_; refine lq rfl (q_len_str rfl un9 rfl) (l_run 1 rfl (lq rfl (q_sub64 rfl rfl rfl (by omega)) ?_)); refine lq rfl (q_slice_str_to rfl un9 rfl rfl (by omega)) ?_; refine l_e0 rfl rfl (e_storeS rfl ti9 rfl rfl (by exact ⟨rfl, rfl⟩) rfl (by (simp only [List.set_cons_succ, List.set_cons_zero]; rfl))) ?_; rintro _ _ _ ⟨rfl, rfl⟩; refine ln (t_ret (n_ret_block (n_ret_block (n_rret (fun w' hw' => .inr ⟨rfl, .ret, ((s.take ((s.length : Int) - (m : Int)).toNat)), ?_, ?_, ?_⟩)))))
   ·exact ⟨rfl, cut_t hm e1 (by omega) hno hc0⟩
   ·exact Le.refl _
   ·exact subC_st hw'
  ·refine t_seq (t_qdraw mo (by kernel_rfl) (fun _ _ _ _ _ h => h) (sq rfl (q_ld rfl rfl (by rfl)) ?_)); refine s_run 2 rfl ?_
   refine s_and2 5 2 36 42 41 _ _ rfl rfl rfl rfl rfl rfl (fun h42 => by
     simp at h42
     refine sg rfl (q_ld rfl rfl (by rfl)) ?_; refine sg rfl (q_ld rfl rfl (by rfl)) ?_; refine s_runG 1 rfl (sg rfl (q_slice_str_to rfl un9 rfl rfl (by omega)) ?_); refine sg rfl (qc rfl rfl rfl ((fun w hw => match_pure v p (s.take (m : Int).toNat) w hp (by simp; omega) (hv.mono (hJ0.trans (Le.of_st hw)))))) ?_; exact s_val rfl
    ) (wanted_n rfl) rfl rfl rfl ?_
   refine s_run 1 rfl (sdn (t_cond rfl (fun hc1 => ?_) (fun hc1 => ?_)))
   ·refine tr (lq rfl (q_ld rfl rfl (by rfl)) ?_); refine l_run 1 rfl (lq rfl (q_slice_str_from rfl un9 rfl rfl (by omega)) ?_); refine l_e0 rfl rfl (e_storeS rfl ti9 rfl rfl (by exact ⟨rfl, rfl⟩) rfl (by (simp only [List.set_cons_succ, List.set_cons_zero]; rfl))) ?_; rintro _ _ _ ⟨rfl, rfl⟩; refine ln (t_ret (n_ret_block (n_ret_block (n_rret (fun w' hw' => .inr ⟨rfl, .ret, ((s.drop (m : Int).toNat)), ?_, ?_, ?_⟩)))))
    ·exact ⟨rfl, cut_f hm (by omega) hno hc1⟩
    ·exact Le.refl _
    ·exact subC_st hw'
   ·refine t_skip (n_block (n_block (n_rnext (fun w' hw' => .inl ⟨rfl, ([]), ?_, ?_, ?_⟩))))
    ·refine ⟨rfl, fun j hj => ?_⟩; rcases Nat.lt_succ_iff_lt_or_eq.1 hj with h | rfl
     ·exact hno j h
     ·exact cutOk_no hm e1 hc0 hc1
    ·exact Le.refl _
    ·exact subC_st hw'
 ·intro bd r hinv hle; obtain ⟨rfl, hno⟩ := hinv; dsimp only at *; refine n_block (n_then (tr (lq rfl (q_ld rfl rfl (by rfl)) ?_))); refine l_e0 rfl rfl (e_storeS rfl ti9 rfl rfl (by exact ⟨rfl, rfl⟩) rfl (by (simp only [List.set_cons_succ, List.set_cons_zero]; rfl))) ?_; rintro _ _ _ ⟨rfl, rfl⟩; refine ln (t_ret (n_np_ret (n_retGM (bs := [bd]) (.inl rfl) rfl (by exact res_cell rfl un9 rfl (by exact rd_rowI rfl) (res_nil)) (fun w' hw => ?_)))); refine ⟨?_, (hw.less hJ0).below⟩
  rw [cutP_none (fun j hj => hno j (by rw [pcsVs_len]; exact hj))]; rfl
 ·intro bd cc r hex hle; obtain ⟨rfl, rfl⟩ := hex; dsimp only at *; refine t_ret (n_ret_block (n_ret_then (n_np_ret (n_retGM (bs := [bd]) (.inl rfl) rfl (by exact res_cell rfl un9 rfl (by exact rd_rowI rfl) (res_nil)) (fun w' hw => ?_))))); exact ⟨rfl, (hw.less hJ0).below⟩
end Go.Tri
