/-
 What stands between the braces.
-/
import Derived.Test.YtmjcakamgeepbaaGreatDoorEB2
namespace Go.Tri
open Go.Proofs Go.RowKit
set_option maxRecDepth 10000
theorem rd_ops {w0 : World} {I : Look} {H : List HA} {b T : Nat} {k : Nat} (hm : row b T (opsW.map str) ∈ H) (hk : k < 12) : Rd w0 I H b (0 + k * 1) (str (nth opsW k [])) := by
 rw [Nat.zero_add, Nat.mul_one]; refine rd_row hm ?_
 have h : k < opsW.length := hk
 rw [List.getElem?_map, List.getElem?_eq_getElem h, nth_eq h]; rfl
theorem br_len {W : Nat → List UInt8 → PR} {kd : Nat} {l : List UInt8} (h : (stB l [35] && decide (1 < (l.length : Int)) && decide ((paramN (l.drop 1) : Int) = (l.length : Int) - 1)) = true) : bracedP W kd l = .ok (.mk 2 (l.drop 1) lenW [] (decide (kd ≠ 0))) := by
 unfold bracedP; rw [if_pos]; simp only [Bool.and_eq_true, decide_eq_true_eq] at h ⊢; exact ⟨⟨h.1.1, by omega⟩, by omega⟩
theorem br_else {W : Nat → List UInt8 → PR} {kd : Nat} {l : List UInt8} (h : (stB l [35] && decide (1 < (l.length : Int)) && decide ((paramN (l.drop 1) : Int) = (l.length : Int) - 1)) = false) : bracedP W kd l = if paramN l = 0 then .bad 55 else if l.drop (paramN l) = [] then .ok (.mk 2 (l.take (paramN l)) [] [] (decide (kd ≠ 0))) else if findOp (l.drop (paramN l)) = [] then .bad 55
    else match W (if Lib.contains [37, 37, 35, 35] (findOp (l.drop (paramN l))) = true then 0 else kd) ((l.drop (paramN l)).drop (findOp (l.drop (paramN l))).length) with
    | .bad e => .bad e
    | .ok w => .ok (.mk 2 (l.take (paramN l)) (findOp (l.drop (paramN l))) w (decide (kd ≠ 0))) := by
  have hneg : ¬ (stB l [35] && decide (1 < l.length) && decide (paramN (l.drop 1) = l.length - 1)) = true := fun h2 => by
   have h3 : (stB l [35] && decide (1 < (l.length : Int)) && decide ((paramN (l.drop 1) : Int) = (l.length : Int) - 1)) = true := by
    simp only [Bool.and_eq_true, decide_eq_true_eq] at h2 ⊢; exact ⟨⟨h2.1.1, by omega⟩, by omega⟩
   rw [h3] at h; cases h
  unfold bracedP; rw [if_neg hneg]
  rfl
theorem findOp_le (s : List UInt8) : (findOp s).length ≤ s.length := by
 unfold findOp
 cases h : opsW.find? (fun o => stB s o) with
 | none => exact Nat.zero_le _
 | some o => exact stB_len (List.find?_some h)
def BRes (r : BR) (I : Look) (x : PE) (e : Nat) : Prop := match r with
 | .ok p => e = 0 ∧ x.pt = p ∧ PlR I x.wv x.word
 | .bad e2 => e = e2 ∧ e ≠ 0 ∧ PlR I x.wv x.word
theorem BRes.w {r : BR} {I : Look} {x : PE} {e : Nat} (h : BRes r I x e) : PlR I x.wv x.word := by
 cases r with
 | ok p => exact h.2.2
 | bad e2 => exact h.2.2
theorem BRes.t {r : BR} {I : Look} {x : PE} {e : Nat} (h : BRes r I x e) (he : e = 0) : r = .ok x.pt ∧ PlR I x.wv x.word := by
 cases r with
 | ok p => exact ⟨by rw [h.2.1], h.2.2⟩
 | bad e2 => exact absurd he h.2.1
theorem BRes.f {r : BR} {I : Look} {x : PE} {e : Nat} (h : BRes r I x e) (he : e ≠ 0) : r = .bad e := by
 cases r with
 | ok p => exact absurd h.1 he
 | bad e2 => rw [h.1]
theorem br_rest {l : List UInt8} (hn : ¬ paramN l = 0) (h : (decide ((paramN l : Int) = 0) || decide (l.drop (paramN l) = [])) = true) : l.drop (paramN l) = [] := by
 rw [Bool.or_eq_true, decide_eq_true_eq, decide_eq_true_eq] at h; rcases h with h | h
 ·omega
 ·exact h
theorem braced_calls (m : Nat) (hW : WithinOk m) (b : Nat) (s : List UInt8) (kd dp : Nat) (v : Value) (l : List UInt8) (I : Look) (F : List HA) (w0 w : World) (hm : 24 - dp = m + 1) (hkd : kd ≤ 2) (hll : l.length ≤ 100000000) (hG : EnvI I) (hw0 : St w0 I (row b 135 (rdC s kd dp v) :: F) w) : Calls Tryz.prog 88 [.pointer (some ⟨b, 0, none⟩), str l].toArray w (fun e w' => ∃ v0, e = .returned v0 ∧ ∃ I' H', (Le I I' ∧ ∃ (x : PE) (e : Nat), v0 = .tuple #[.agg (partC x).toArray, .int .i64 (e : Int)] ∧ H' = row b 135 (rdC s kd dp v) :: F ∧ BRes (bracedP (wP m) kd l) I' x e) ∧ St w I' H' w') := by
 refine enter Tryz.func88 rfl Tryz.ntmps88 rfl (hw0.self) (tr (le rfl (e_alloc rfl ti120 rfl) ?_)); rintro _ _ _ ⟨b4, rfl, rfl, rfl⟩; refine lrun rfl (tr (l_run 1 rfl (lq rfl (qc rfl rfl rfl ((fun w hw => quoted_pure b s kd dp v w (rowed_of hw)))) (lq rfl (q_build (pl := [(_, _), (_, _), (_, _), (_, _), (_, _)]) (cs := (partC (⟨2, [], [], nilV, [], (decide (kd ≠ 0))⟩ : PE)).toArray) rfl un120 ti120 ⟨rfl, ⟨_, _, ti3⟩, rfl, ⟨_, _, ti9⟩, rfl, ⟨_, _, ti9⟩, rfl, ⟨_, _, ti73⟩, rfl, ⟨_, _, ti4⟩, trivial⟩ rfl rfl) (le rfl (e_alloc rfl ti120 rfl) ?_))))); rintro _ _ _ ⟨b6, rfl, rfl, rfl⟩; refine l_e0 rfl rfl ((by exact e_store_all rfl ti120 rfl rfl rfl (by exact partC_ones (I := I) (plR_nil I)) rfl)) ?_; rintro _ _ _ ⟨rfl, rfl⟩; refine lnt (tq (s_run 1 rfl (sq rfl (qc rfl rfl rfl ((fun w _ => hasPrefix_pure l [35] w))) (s_run 1 rfl ?_))))
 refine s_and2 3 2 19 23 22 _ _ rfl rfl rfl rfl rfl rfl (fun h23 => by
   refine s_runG 1 rfl (sg rfl (q_len_str rfl un9 rfl) (s_runG 1 rfl ?_)); exact s_val rfl
  ) (wanted_n rfl) rfl rfl rfl ?_
 refine s_run 1 rfl ?_
 refine s_and2 7 7 24 32 31 _ _ rfl rfl rfl rfl rfl rfl (fun h32 => by
   simp at h32
   have hl1 : 1 < l.length := by have := h32.2; omega
   refine s_runG 1 rfl (sg rfl (q_slice_str_from rfl un9 rfl rfl (by omega)) ?_); refine sg rfl (qc rfl rfl rfl ((fun w _ => param_pure (l.drop 1) w (by rw [List.length_drop]; omega)))) ?_; refine s_runG 1 rfl (sg rfl (q_len_str rfl un9 rfl) (sg rfl (q_sub64 rfl rfl rfl (by omega)) ?_)); refine s_runG 1 rfl ?_; exact s_val rfl
  ) (wanted_n rfl) rfl rfl rfl ?_
 refine sdn (t_cond rfl (fun hc0 => ?_) (fun hc0 => ?_))
 ·have hbr := br_len (W := wP m) (kd := kd) hc0
  have hl1 : 1 < l.length := by
   have h := hc0
   simp only [Bool.and_eq_true, decide_eq_true_eq] at h
   omega
  refine tr (l_run 1 rfl (lq rfl (q_slice_str_from rfl un9 rfl rfl (by omega)) ?_)); refine l_run 1 rfl ?_; refine l_e0 rfl rfl (e_storeS rfl ti9 rfl rfl (by exact ⟨rfl, rfl⟩) rfl (by rfl)) ?_; rintro _ _ _ ⟨rfl, rfl⟩; refine l_run 1 rfl ?_; refine l_e0 rfl rfl (e_storeS rfl ti9 rfl rfl (by exact ⟨rfl, rfl⟩) rfl (by rfl)) ?_; rintro _ _ _ ⟨rfl, rfl⟩; refine l_heap (H' := row b6 120 (partC (⟨2, (l.drop 1), lenW, nilV, [], (decide (kd ≠ 0))⟩ : PE)) :: _) ?_ (fun _ h => h); refine lnr1 (lq rfl (q_load_rowA rfl un120 ti120 rfl rfl rfl) (l_e0 rfl rfl ((by exact e_store_all rfl ti120 rfl rfl rfl (by exact partC_ones (I := I) (plR_nil I)) rfl)) ?_)); rintro _ _ _ ⟨rfl, rfl⟩; refine lrun rfl (t_ret (n_ret_then (n_retGG (.inl rfl) rfl (by exact rg_row rfl un120 ti120 rfl rfl (rg_tmp rfl (rg_nil))) (fun w' hw => ?_)))); exact ⟨_, rfl, I, _, ⟨Le.refl _, (⟨2, (l.drop 1), lenW, nilV, [], (decide (kd ≠ 0))⟩ : PE), 0, rfl, rfl, (by rw [hbr]; exact ⟨rfl, rfl, plR_nil _⟩)⟩, subC_st hw⟩
 ·have hbr := br_else (W := wP m) (kd := kd) hc0
  refine tskip (tr (l_run 1 rfl (lq rfl (qc rfl rfl rfl ((fun w _ => param_pure l w (by omega)))) ?_))); refine lrun rfl (t_seq ?_)
  have hpl0 := param_le l
  refine t_region (l_run 2 rfl (lq rfl (q_slice_str_from rfl un9 rfl rfl (by omega)) ?_)); refine lrun rfl (tr (l_run 2 rfl (lq rfl (q_slice_str_to rfl un9 rfl rfl (by omega)) ?_))); refine l_run 1 rfl ?_; refine l_e0 rfl rfl (e_storeS rfl ti9 rfl rfl (by exact ⟨rfl, rfl⟩) rfl (by rfl)) ?_; rintro _ _ _ ⟨rfl, rfl⟩; refine l_heap (H' := row b6 120 (partC (⟨2, (l.take (paramN l)), [], nilV, [], (decide (kd ≠ 0))⟩ : PE)) :: _) ?_ (fun _ h => h); refine lnt (tq (s_run 3 rfl ?_))
  refine s_or2 2 2 49 52 51 _ _ rfl rfl rfl rfl rfl rfl (fun h52 => by
    simp at h52
    refine s_runG 1 rfl (sg rfl (q_eql_str rfl rfl rfl) ?_); exact s_val rfl
   ) (wanted_n rfl) rfl rfl rfl ?_
  refine sdn (t_cond rfl (fun hc1 => ?_) (fun hc1 => ?_))
  ·refine t_seq (trun rfl (t_cond rfl (fun hc2 => ?_) (fun hc2 => ?_)))
   ·simp at hc2
    have hn0 : paramN l = 0 := by omega
    rw [if_pos hn0] at hbr; refine tr (lq rfl (q_build (pl := [(_, _), (_, _), (_, _), (_, _), (_, _)]) (cs := (partC pe0).toArray) rfl un120 ti120 ⟨rfl, ⟨_, _, ti3⟩, rfl, ⟨_, _, ti9⟩, rfl, ⟨_, _, ti9⟩, rfl, ⟨_, _, ti73⟩, rfl, ⟨_, _, ti4⟩, trivial⟩ rfl rfl) (l_e0 rfl rfl ((by exact e_store_all rfl ti120 rfl rfl rfl (by exact partC_ones (I := I) (plR_nil I)) rfl)) ?_)); rintro _ _ _ ⟨rfl, rfl⟩; refine lrun rfl (t_ret (n_ret_then (n_ret_then (n_retGG (.inl rfl) rfl (by exact rg_row rfl un120 ti120 rfl rfl (rg_tmp rfl (rg_nil))) (fun w' hw => ?_))))); exact ⟨_, rfl, I, _, ⟨Le.refl _, pe0, 55, rfl, rfl, (by rw [hbr]; exact ⟨rfl, by decide, plR_nil _⟩)⟩, subC_st hw⟩
   ·simp at hc2
    have hn0 : ¬ paramN l = 0 := by omega
    have h1 : (l.drop (paramN l)) = [] := br_rest hn0 hc1
    rw [if_neg hn0, if_pos h1] at hbr; refine tskip (tr (lq rfl (q_load_rowA rfl un120 ti120 rfl rfl rfl) (l_e0 rfl rfl ((by exact e_store_all rfl ti120 rfl rfl rfl (by exact partC_ones (I := I) (plR_nil I)) rfl)) ?_))); rintro _ _ _ ⟨rfl, rfl⟩; refine lrun rfl (t_ret (n_ret_then (n_retGG (.inl rfl) rfl (by exact rg_row rfl un120 ti120 rfl rfl (rg_tmp rfl (rg_nil))) (fun w' hw => ?_)))); exact ⟨_, rfl, I, _, ⟨Le.refl _, (⟨2, (l.take (paramN l)), [], nilV, [], (decide (kd ≠ 0))⟩ : PE), 0, rfl, rfl, (by rw [hbr]; exact ⟨rfl, rfl, plR_nil _⟩)⟩, subC_st hw⟩
  ·have h1 := hc1
   rw [Bool.or_eq_false_iff, decide_eq_false_iff_not, decide_eq_false_iff_not] at h1
   have h12 : ¬ l.drop (paramN l) = [] := h1.2
   rw [if_neg (show ¬ paramN l = 0 by omega), if_neg h12] at hbr; refine tskip (t_seq (tr (le rfl (e_buildSliceN (vs := [_, _, _, _, _, _, _, _, _, _, _, _]) (css := [[str [58, 45]], [str [58, 61]], [str [58, 63]], [str [58, 43]], [str [37, 37]], [str [35, 35]], [str [45]], [str [61]], [str [63]], [str [43]], [str [37]], [str [35]]]) rfl un23 ti9 rfl rfl rfl rfl (rfl) (by simp [pcC, chC])) ?_))); rintro _ _ _ ⟨b57, rfl, rfl, rfl⟩; refine lq rfl ((by exact q_len rfl un23 rfl (⟨_, _, rfl⟩))) ?_; refine lrun rfl (t_block (t_loopE (ι := Nat) (fun zz => zz ≤ 12) (fun zz => 12 - zz) (fun zz => [(59, .int .i64 (zz : Int))]) [(0, _), (1, _), (4, _), (5, _), (6, _), (32, _), (7, _), (8, _), (52, _), (57, _), (58, _)] (fun zz => I) (fun zz => (row b57 9 (opsW.map str) :: row b6 120 (partC (⟨2, (l.take (paramN l)), (((opsW.take zz).find? (fun o => stB (l.drop (paramN l)) o)).getD []), nilV, [], (decide (kd ≠ 0))⟩ : PE)) :: row b4 120 (partC pe0) :: row b 135 (rdC s kd dp v) :: F)) 0 ?_ (sub_rfl rfl) (sub_rfl rfl) (fun _ h => h) ?_))
   ·exact Nat.zero_le _
   rintro k hk; dsimp only at *; refine trun rfl (t_seq (t_cond rfl (fun hc3 => ?_) (fun hc3 => ?_)))
   ·simp at hc3
    have hk12 : k < 12 := by omega
    have hop := opsW_find (s := (l.drop (paramN l))) opsW k (((opsW.take k).find? (fun o => stB (l.drop (paramN l)) o)).getD []) hk rfl (by decide) hk12
    refine tskip (t_seq (t_block (tr ?_))); refine lq rfl ((by exact q_indexAddrN rfl un23 ti9 rfl rfl (⟨_, _, rfl, fun _ _ h => by cases h; rfl, fun _ h => by cases h⟩) (by omega))) ?_; refine lq rfl ((by exact q_ldr rfl rfl (rd_ops (b := b57) (T := 9) (k := k) (List.mem_cons_self) (by omega)))) ?_; refine lrun rfl (tq (s_run 1 rfl (sq rfl ((by exact q_ld rfl rfl (by rfl))) ?_))); refine sq rfl (q_eql_str rfl rfl rfl) (s_run 1 rfl ?_)
    refine s_and2 3 3 66 70 69 _ _ rfl rfl rfl rfl rfl rfl (fun h70 => by
      simp at h70
      refine s_runG 2 rfl (sg rfl (qc rfl rfl rfl ((fun w _ => hasPrefix_pure (l.drop (paramN l)) (nth opsW k []) w))) ?_); exact s_val rfl
     ) (wanted_n rfl) rfl rfl rfl ?_
    refine sdn (t_cond rfl (fun hc4 => ?_) (fun hc4 => ?_))
    ·have hc4p : (((opsW.take k).find? (fun o => stB (l.drop (paramN l)) o)).getD []) = [] ∧ stB (l.drop (paramN l)) (nth opsW k []) = true := by simpa using hc4
     refine t_region (l_run 2 rfl ?_); refine l_e0 rfl rfl (e_storeS rfl ti9 rfl rfl (by exact ⟨rfl, rfl⟩) rfl (by rfl)) ?_; rintro _ _ _ ⟨rfl, rfl⟩; refine l_heap (H' := row b6 120 (partC (⟨2, (l.take (paramN l)), (nth opsW k []), nilV, [], (decide (kd ≠ 0))⟩ : PE)) :: _) ?_ (fun _ h => h); refine l_nil (n_block (n_then (t_region (lq rfl (q_add64 rfl rfl rfl (by omega)) ?_)))); refine l_runA rfl (n_roundE (k + 1) ?_ ?_ (sub_rfl rfl) (sub_rfl rfl) (fun _ h => by dsimp only; rw [hop, if_pos hc4p]; exact subC_st h))
     ·omega
     ·show 12 - (k + 1) < 12 - k
      omega
    ·have hc4n : ¬ ((((opsW.take k).find? (fun o => stB (l.drop (paramN l)) o)).getD []) = [] ∧ stB (l.drop (paramN l)) (nth opsW k []) = true) := fun h => by
      have h5 : (decide ((((opsW.take k).find? (fun o => stB (l.drop (paramN l)) o)).getD []) = []) && stB (l.drop (paramN l)) (nth opsW k [])) = false := hc4
      rw [h.2, decide_eq_true h.1] at h5
      cases h5
     refine t_skip (n_block (n_then (t_region (lq rfl (q_add64 rfl rfl rfl (by omega)) ?_)))); refine l_runA rfl (n_roundE (k + 1) ?_ ?_ (sub_rfl rfl) (sub_rfl rfl) (fun _ h => by dsimp only; rw [hop, if_neg hc4n]; exact subC_st h))
     ·omega
     ·show 12 - (k + 1) < 12 - k
      omega
   ·simp at hc3
    obtain rfl : k = 12 := by omega
    refine t_exit (n_exit_then (n_exit_then (n_exit_block (n_then (t_seq (t_heap (H' := row b57 9 (opsW.map str) :: row b6 120 (partC (⟨2, (l.take (paramN l)), (findOp (l.drop (paramN l))), nilV, [], (decide (kd ≠ 0))⟩ : PE)) :: row b4 120 (partC pe0) :: row b 135 (rdC s kd dp v) :: F) ?_ (fun _ h => h))))))); refine t_region (l_run 3 rfl (lq rfl ((by exact q_ld rfl rfl (by rfl))) ?_)); refine lrun rfl (t_cutE (ι := Nat) (fun zz => (zz = if Lib.contains [37, 37, 35, 35] (findOp (l.drop (paramN l))) = true then 0 else kd) ∧ ¬ findOp (l.drop (paramN l)) = []) (fun zz => [(11, .int .i64 (zz : Int))]) [(59, _), (0, _), (1, _), (4, _), (6, _), (32, _), (7, _), (8, _), (52, _), (57, _), (58, _), (60, _)] (fun zz => I) (fun zz => (row b6 120 (partC (⟨2, (l.take (paramN l)), (findOp (l.drop (paramN l))), nilV, [], (decide (kd ≠ 0))⟩ : PE)) :: row b4 120 (partC pe0) :: row b 135 (rdC s kd dp v) :: F)) (sub_rfl rfl) ?_ ?_)
    ·refine t_block (tr (l_run 1 rfl (lq rfl ((by exact q_ld rfl rfl (by rfl))) ?_))); refine lq rfl (q_eql_str rfl rfl rfl) (lrun rfl (t_cond rfl (fun hc5 => ?_) (fun hc5 => ?_)))
     ·have hf0 : findOp (l.drop (paramN l)) = [] := of_decide_eq_true hc5
      rw [if_pos hf0] at hbr; refine tr (lq rfl (q_build (pl := [(_, _), (_, _), (_, _), (_, _), (_, _)]) (cs := (partC pe0).toArray) rfl un120 ti120 ⟨rfl, ⟨_, _, ti3⟩, rfl, ⟨_, _, ti9⟩, rfl, ⟨_, _, ti9⟩, rfl, ⟨_, _, ti73⟩, rfl, ⟨_, _, ti4⟩, trivial⟩ rfl rfl) (l_e0 rfl rfl ((by exact e_store_all rfl ti120 rfl rfl rfl (by exact partC_ones (I := I) (plR_nil I)) rfl)) ?_)); rintro _ _ _ ⟨rfl, rfl⟩; refine lrun rfl (t_ret (n_ret_block (n_ret_then (n_retGG (.inl rfl) rfl (by exact rg_row rfl un120 ti120 rfl rfl (rg_tmp rfl (rg_nil))) (fun w' hw => ?_))))); exact ⟨_, rfl, I, _, ⟨Le.refl _, pe0, 55, rfl, rfl, (by rw [hbr]; exact ⟨rfl, by decide, plR_nil _⟩)⟩, subC_st hw⟩
     ·have hf0 : ¬ findOp (l.drop (paramN l)) = [] := of_decide_eq_false hc5
      rw [if_neg hf0] at hbr; refine tr (l_run 1 rfl (lq rfl ((by exact q_ld rfl rfl (by rfl))) ?_)); refine lq rfl (qc rfl rfl rfl ((fun w hw => contains_pure [37, 37, 35, 35] (findOp (l.drop (paramN l))) w (by decide) (hG.mono hw.le)))) ?_; refine lrun rfl (t_cond rfl (fun hc6 => ?_) (fun hc6 => ?_))
      ·refine t_region (l_runA rfl (n_block (n_cut (0) ?_ (sub_rfl rfl) (sub_rfl rfl) (fun _ h => by dsimp only; exact subC_st h))))
       ·exact ⟨by rw [if_pos hc6], hf0⟩
      ·refine t_skip (n_block (n_cut (kd) ?_ (sub_rfl rfl) (sub_rfl rfl) (fun _ h => by dsimp only; exact subC_st h)))
       ·exact ⟨by rw [if_neg (by rw [hc6]; simp)], hf0⟩
    rintro kk ⟨hkk, hf0⟩; rw [if_neg hf0] at hbr
    have hkk2 : kk ≤ 2 := by rw [hkk]; split <;> omega
    refine t_seq ?_
    have hfo := findOp_le (l.drop (paramN l))
    have hfo3 : (⟨2, (l.take (paramN l)), (findOp (l.drop (paramN l))), nilV, [], (decide (kd ≠ 0))⟩ : PE).op.length ≤ (l.drop ((paramN l : Int)).toNat).length := hfo
    rw [List.length_drop] at hfo; refine t_draw [11] [] [] mo (by kernel_rfl) (fun _ _ _ _ _ h => h) (r_run [0, 1] (by kernel_rfl) rfl rfl rfl (rq1 2 (by kernel_rfl) rfl rfl ((by exact q_ld rfl rfl (by rfl))) ?_)); refine rqf 3 (by kernel_rfl) rfl rfl (fun _ => q_len_str rfl un9 rfl) (rqf 4 (by kernel_rfl) rfl rfl (fun _ => q_slice_str_from rfl un9 rfl rfl (by omega)) ?_); refine r_run [5, 6, 7, 8] (by kernel_rfl) rfl rfl rfl (rq1 9 (by kernel_rfl) rfl rfl ((by exact q_ld rfl rfl (by rfl))) ?_); refine rqf 10 (by kernel_rfl) rfl rfl (fun _ => q_add64 rfl rfl rfl (by omega)) ?_; refine re 11 (by kernel_rfl) rfl (Le.refl _) rfl (ec rfl rfl rfl (fun w hw => hW ((l.drop (paramN l)).drop (findOp (l.drop (paramN l))).length) kk (dp + 1) _ _ _ w (by omega) (by omega) hkk2 (by rw [List.length_drop, List.length_drop]; omega) hG hw)) ?_; rintro _ J99 _ ⟨hJ99, rfl, vl, e1, rfl, hres⟩; refine ⟨hJ99, .inr SubC.sub, ?_⟩; refine r_run [12, 13, 14, 15, 16] (by kernel_rfl) rfl rfl rfl (r_end (by kernel_rfl) (n_then (t_seq (trun rfl (t_cond rfl (fun hc7 => ?_) (fun hc7 => ?_))))))
    ·simp at hc7
     have he1 : e1 ≠ 0 := by omega
     have hwr := hres.f he1
     rw [← hkk, hwr.1] at hbr; refine tr (lq rfl (q_build (pl := [(_, _), (_, _), (_, _), (_, _), (_, _)]) (cs := (partC pe0).toArray) rfl un120 ti120 ⟨rfl, ⟨_, _, ti3⟩, rfl, ⟨_, _, ti9⟩, rfl, ⟨_, _, ti9⟩, rfl, ⟨_, _, ti73⟩, rfl, ⟨_, _, ti4⟩, trivial⟩ rfl rfl) (l_run 1 rfl (l_e0 rfl rfl ((by exact e_store_all rfl ti120 rfl rfl rfl (by exact partC_ones (I := I) (plR_nil I)) rfl)) ?_))); rintro _ _ _ ⟨rfl, rfl⟩; refine lrun rfl (t_ret (n_ret_then (n_retGG (.inl rfl) rfl (by exact rg_row rfl un120 ti120 rfl rfl (rg_tmp rfl (rg_nil))) (fun w' hw => ?_)))); exact ⟨_, rfl, J99, _, ⟨hJ99, pe0, e1, rfl, rfl, (by rw [hbr]; exact ⟨rfl, he1, plR_nil _⟩)⟩, subC_st hw⟩
    ·simp at hc7
     have he1 : e1 = 0 := by omega
     obtain ⟨l2, hwr, hpl⟩ := hres.t he1; rw [← hkk, hwr] at hbr; refine tskip (tr (l_run 2 rfl ?_)); refine l_e0 rfl rfl (e_storeS rfl ti73 rfl rfl (by exact hpl.one) rfl (by rfl)) ?_; rintro _ _ _ ⟨rfl, rfl⟩; refine l_heap (H' := row b6 120 (partC (⟨2, (l.take (paramN l)), (findOp (l.drop (paramN l))), vl, l2, (decide (kd ≠ 0))⟩ : PE)) :: _) ?_ (fun _ h => h); refine lnr1 (lq rfl (q_load_rowA rfl un120 ti120 rfl rfl rfl) (l_e0 rfl rfl ((by exact e_store_all rfl ti120 rfl rfl rfl (by exact partC_ones (x := ⟨2, (l.take (paramN l)), findOp (l.drop (paramN l)), vl, l2, (decide (kd ≠ 0))⟩) hpl) rfl)) ?_)); rintro _ _ _ ⟨rfl, rfl⟩; refine lrun rfl (t_ret (n_retGG (.inl rfl) rfl (by exact rg_row rfl un120 ti120 rfl rfl (rg_tmp rfl (rg_nil))) (fun w' hw => ?_))); exact ⟨_, rfl, J99, _, ⟨hJ99, (⟨2, (l.take (paramN l)), (findOp (l.drop (paramN l))), vl, l2, (decide (kd ≠ 0))⟩ : PE), 0, rfl, rfl, (by rw [hbr]; exact ⟨rfl, rfl, hpl⟩)⟩, subC_st hw⟩
end Go.Tri
