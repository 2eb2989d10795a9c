/-
 A small scene; texts compared.
-/
import Derived.Test.YtbogmbdfjgnfaaaGreatDoorEM8
import Derived.Test.YtbogmbdfjgnfaaaGreatDoorEG4
namespace Go.Tri
open Go.Proofs Go.RowKit
set_option maxRecDepth 10000 in
theorem small_pure (vars : List Vr) (al outs : List (List UInt8)) (vv sv ov pv : Value) (hpv : One pv) (s : List UInt8) (w : World) (hvv : Sl (look w) 5 vv (vars.map vrC)) (hsv : Sl (look w) 1 sv (al.map svC)) (hov : Sl (look w) 1 ov (outs.map svC)) (hsm : smallN vars al outs s ≤ 1000000000) (hvl : vars.length ≤ 1000000000) : Pure Tryz.prog 15 [.agg #[vv, sv, ov, pv], str s] w (.bool (smallB vars al outs s)) := by
 have hsm2 : s.length + valsN vars + (Lib.lens al + al.length) + (Lib.lens outs + outs.length) ≤ 1000000000 := hsm
 refine enter Tryz.func15 rfl Tryz.ntmps15 rfl (St.start w (look w) (Le.refl _)) ?_; refine t_seq ?_; refine t_region ?_; refine l_e rfl rfl rfl (e_box rfl rfl rfl) ?_; rintro _ _ _ ⟨b2, rfl, rfl, rfl⟩; refine l_q rfl rfl rfl (q_assign rfl rfl) ?_; refine l_nil ?_; refine n_then ?_; refine t_seq ?_; refine t_region ?_; refine l_q rfl rfl rfl (q_move rfl rfl) ?_; refine l_q rfl rfl rfl (q_len_str rfl Tryz.underlying9 rfl) ?_; refine l_q rfl rfl rfl (q_assign rfl rfl) ?_; refine l_nil ?_; refine n_then ?_; refine t_seq ?_; refine t_seq ?_; refine t_region ?_; refine l_q rfl rfl rfl (q_fieldAddr rfl Tryz.underlying26 rfl rfl ti23 rfl rfl) ?_; refine l_q rfl rfl rfl ((by exact q_load_row rfl Tryz.underlying23 rfl rfl (by rfl))) ?_; refine l_q rfl rfl rfl ((by exact q_len rfl Tryz.underlying23 rfl (Sl.lenOf hvv (List.length_map _)))) ?_; refine l_q rfl rfl rfl (q_move rfl rfl) ?_; refine l_nil ?_; refine n_then ?_; refine t_block ?_; refine t_loopE (ι := Nat × Nat) (fun zz => zz.1 ≤ vars.length ∧ zz.2 = s.length + valsN (vars.take zz.1)) (fun zz => vars.length - zz.1) (fun zz => [(17, .int .i64 (zz.1 : Int)), (5, .int .i64 (zz.2 : Int))]) [(0, _), (1, _), (2, _), (4, _), (15, _), (16, _)] (fun zz => look w) (fun zz => [row b2 26 [vv, sv, ov, pv]]) (0, s.length) ?_ (sub_cons rfl (sub_cons rfl sub_nil)) (sub_cons rfl (sub_cons rfl (sub_cons rfl (sub_cons rfl (sub_cons rfl (sub_cons rfl sub_nil)))))) (fun _ h => subC_st h) ?_
 ·try dsimp only
  exact ⟨Nat.zero_le _, rfl⟩
 rintro ⟨i, n⟩ ⟨hi, hn⟩
 try dsimp only at *
 have hvle := valsN_le vars i
 refine t_seq ?_; refine t_region ?_; refine l_q rfl rfl rfl (q_lss rfl rfl rfl) ?_; refine l_nil ?_; refine n_then ?_; refine t_seq ?_; refine t_cond rfl (fun hc0 => ?_) (fun hc0 => ?_)
 ·try simp at hc0
  have hil : i < vars.length := by omega
  have hs1 := valsN_snoc hil
  have hle1 := valsN_le vars (i + 1)
  refine t_skip ?_; refine n_then ?_; refine t_seq ?_; refine t_block ?_; refine t_seq ?_; refine t_region ?_; refine l_q rfl rfl rfl ((by exact q_indexAddrN rfl Tryz.underlying23 ti28 rfl rfl (Sl.shape hvv (List.length_map _)) (by omega))) ?_; refine l_q rfl rfl rfl ((by exact q_load_agg rfl Tryz.underlying28 ti28 rfl rfl (rds_vr (i := i) hvv (by omega)))) ?_; refine l_e rfl rfl rfl (e_alloc rfl ti28 rfl) ?_; rintro _ _ _ ⟨b7, rfl, rfl, rfl⟩; refine l_e0 rfl rfl ((by exact e_store_all rfl ti28 rfl rfl rfl (by exact vrC_ones _) rfl)) ?_; rintro _ _ _ ⟨rfl, rfl⟩; refine l_heap (H' := row b7 28 (vrC (nth vars i vr0)) :: _) ?_ (fun _ h => h); refine l_nil ?_; refine n_then ?_; refine t_region ?_; refine l_q rfl rfl rfl (q_move rfl rfl) ?_; refine l_q rfl rfl rfl (q_fieldAddr rfl Tryz.underlying28 rfl rfl ti9 rfl rfl) ?_; refine l_q rfl rfl rfl ((by exact q_load_row rfl Tryz.underlying9 rfl rfl (by rfl))) ?_; refine l_q rfl rfl rfl (q_len_str rfl Tryz.underlying9 rfl) ?_; refine l_q rfl rfl rfl (q_add64 rfl rfl rfl (by omega)) ?_; refine l_q rfl rfl rfl (q_assign rfl rfl) ?_; refine l_nil ?_; refine n_block ?_; refine n_then ?_; refine t_region ?_; refine l_q rfl rfl rfl (q_add64 rfl rfl rfl (by omega)) ?_; refine l_q rfl rfl rfl (q_move rfl rfl) ?_; refine l_nil ?_
  refine n_roundE ((i + 1, n + (nth vars i vr0).value.length)) ?_ ?_ (sub_cons rfl (sub_cons rfl sub_nil)) (sub_cons rfl (sub_cons rfl (sub_cons rfl (sub_cons rfl (sub_cons rfl (sub_cons rfl sub_nil)))))) (fun _ h => by try dsimp only; exact subC_st h)
  ·try dsimp only
   exact ⟨by omega, by rw [valsN_snoc hil, hn]; omega⟩
  ·try dsimp only
   show vars.length - (i + 1) < vars.length - i
   omega
 ·try simp at hc0
  have hil : i = vars.length := by omega
  rw [hil, List.take_length] at hn; refine t_exit ?_; refine n_exit_then ?_; refine n_exit_then ?_; refine n_exit_block ?_; refine n_then ?_; refine t_seq ?_; refine t_seq ?_; refine t_region ?_; refine l_q rfl rfl rfl (q_fieldAddr rfl Tryz.underlying26 rfl rfl ti24 rfl rfl) ?_; refine l_q rfl rfl rfl ((by exact q_load_row rfl Tryz.underlying24 rfl rfl (by rfl))) ?_; refine l_q rfl rfl rfl (q_fieldAddr rfl Tryz.underlying26 rfl rfl ti24 rfl rfl) ?_; refine l_q rfl rfl rfl ((by exact q_load_row rfl Tryz.underlying24 rfl rfl (by rfl))) ?_; refine l_e rfl rfl rfl (e_buildSliceN (vs := [_, _]) (css := [[sv], [ov]]) rfl Tryz.underlying92 ti24 rfl rfl rfl rfl (by simp [hsv.one.1, hov.one.1]) (by simp [pcC, chC])) ?_; rintro _ _ _ ⟨b31, rfl, rfl, rfl⟩; refine l_freezeRow b31 (fun Jz hJz hk31 => ?_)
  have hrw := sl_row (f := oneC) (sz := 1) [sv, ov] hk31 rfl rfl (fun _ => rfl)
  have hsvJ := hsv.mono hJz
  have hovJ := hov.mono hJz
  refine l_q rfl rfl rfl ((by exact q_len rfl Tryz.underlying92 rfl (Sl.lenOf (n := 2) hrw rfl))) ?_; refine l_q rfl rfl rfl (q_move rfl rfl) ?_; refine l_nil ?_; refine n_then ?_; refine t_block ?_; refine t_loopE (ι := Nat × Nat) (fun zz => zz.1 ≤ 2 ∧ zz.2 = s.length + valsN vars + sizL ([al, outs].take zz.1)) (fun zz => 2 - zz.1) (fun zz => [(33, .int .i64 (zz.1 : Int)), (5, .int .i64 (zz.2 : Int))]) [(17, _), (0, _), (1, _), (2, _), (4, _), (15, _), (16, _), (18, _), (31, _), (32, _)] (fun zz => Jz) (fun zz => [row b2 26 [vv, sv, ov, pv]]) (0, n) ?_ (sub_cons rfl (sub_cons rfl sub_nil)) (sub_cons rfl (sub_cons rfl (sub_cons rfl (sub_cons rfl (sub_cons rfl (sub_cons rfl (sub_cons rfl (sub_cons rfl (sub_cons rfl (sub_cons rfl sub_nil)))))))))) (fun _ h => subC_st h) ?_
  ·try dsimp only
   exact ⟨Nat.zero_le _, hn⟩
  rintro ⟨j, n⟩ ⟨hj, hn⟩
  try dsimp only at *
  have hle := sizL_le [al, outs] j
  have hlt : sizL [al, outs] = (Lib.lens al + al.length) + ((Lib.lens outs + outs.length) + 0) := rfl
  refine t_seq ?_; refine t_region ?_; refine l_q rfl rfl rfl (q_lss rfl rfl rfl) ?_; refine l_nil ?_; refine n_then ?_; refine t_seq ?_; refine t_cond rfl (fun hc1 => ?_) (fun hc1 => ?_)
  ·try simp at hc1
   have hj2 : j < 2 := by omega
   have hsn := sizL_snoc (ll := [al, outs]) (i := j) (by simpa using hj2)
   have hle1 := sizL_le [al, outs] (j + 1)
   have hsz : sizN (nth [al, outs] j []) = Lib.lens (nth [al, outs] j []) + (nth [al, outs] j []).length := rfl
   refine t_skip ?_; refine n_then ?_; refine t_seq ?_; refine t_block ?_; refine t_seq ?_; refine t_region ?_; refine l_q rfl rfl rfl ((by exact q_indexAddrN rfl Tryz.underlying92 ti24 rfl rfl (Sl.shape (n := 2) hrw rfl) (by omega))) ?_; refine l_q rfl rfl rfl ((by exact q_load rfl Tryz.underlying24 rfl rfl (rd_row1 (i := j) hrw (by simpa using hj2)))) ?_; refine l_q rfl rfl rfl (q_assign rfl rfl) ?_; refine l_nil ?_; refine n_then ?_; refine t_seq ?_; refine t_seq ?_; refine t_region ?_; refine l_q rfl rfl rfl (q_move rfl rfl) ?_; refine l_q rfl rfl rfl ((by exact q_len rfl Tryz.underlying24 rfl (Sl.lenOf (two_sl hsvJ hovJ hj2) (List.length_map _)))) ?_; refine l_q rfl rfl rfl (q_move rfl rfl) ?_; refine l_nil ?_; refine n_then ?_; refine t_block ?_
   refine t_loopE (ι := Nat × Nat) (fun zz => zz.1 ≤ (nth [al, outs] j []).length ∧ zz.2 = n + Lib.lens ((nth [al, outs] j []).take zz.1)) (fun zz => (nth [al, outs] j []).length - zz.1) (fun zz => [(39, .int .i64 (zz.1 : Int)), (5, .int .i64 (zz.2 : Int))]) [(33, _), (17, _), (0, _), (1, _), (2, _), (4, _), (15, _), (16, _), (18, _), (31, _), (32, _), (34, _), (9, _), (37, _), (38, _)] (fun zz => Jz) (fun zz => [row b2 26 [vv, sv, ov, pv]]) (0, n) ?_ (sub_cons rfl (sub_cons rfl sub_nil)) (sub_cons rfl (sub_cons rfl (sub_cons rfl (sub_cons rfl (sub_cons rfl (sub_cons rfl (sub_cons rfl (sub_cons rfl (sub_cons rfl (sub_cons rfl (sub_cons rfl (sub_cons rfl (sub_cons rfl (sub_cons rfl (sub_cons rfl sub_nil))))))))))))))) (fun _ h => subC_st h) ?_
   ·try dsimp only
    exact ⟨Nat.zero_le _, rfl⟩
   rintro ⟨m, n2⟩ ⟨hm, hn2⟩
   try dsimp only at *
   have hmle := Lib.lens_take_le (nth [al, outs] j []) m
   refine t_seq ?_; refine t_region ?_; refine l_q rfl rfl rfl (q_lss rfl rfl rfl) ?_; refine l_nil ?_; refine n_then ?_; refine t_seq ?_; refine t_cond rfl (fun hc2 => ?_) (fun hc2 => ?_)
   ·try simp at hc2
    have hml : m < (nth [al, outs] j []).length := by omega
    have hs2 := Lib.lens_take_succ _ _ _ (get_nth (d := []) hml)
    have hle2 := Lib.lens_take_le (nth [al, outs] j []) (m + 1)
    refine t_skip ?_; refine n_then ?_; refine t_seq ?_; refine t_block ?_; refine t_seq ?_; refine t_region ?_; refine l_q rfl rfl rfl ((by exact q_indexAddrN rfl Tryz.underlying24 ti9 rfl rfl (Sl.shape (two_sl hsvJ hovJ hj2) (List.length_map _)) (by omega))) ?_; refine l_q rfl rfl rfl ((by exact q_load rfl Tryz.underlying9 rfl rfl (rd_sv (i := m) (two_sl hsvJ hovJ hj2) (by omega)))) ?_; refine l_q rfl rfl rfl (q_assign rfl rfl) ?_; refine l_nil ?_; refine n_then ?_; refine t_region ?_; refine l_q rfl rfl rfl (q_move rfl rfl) ?_; refine l_q rfl rfl rfl (q_move rfl rfl) ?_; refine l_q rfl rfl rfl (q_len_str rfl Tryz.underlying9 rfl) ?_; refine l_q rfl rfl rfl (q_add64 rfl rfl rfl (by omega)) ?_; refine l_q rfl rfl rfl (q_assign rfl rfl) ?_; refine l_nil ?_; refine n_block ?_; refine n_then ?_; refine t_region ?_; refine l_q rfl rfl rfl (q_add64 rfl rfl rfl (by omega)) ?_; refine l_q rfl rfl rfl (q_move rfl rfl) ?_; refine l_nil ?_; refine n_roundE ((m + 1, n2 + (nth (nth [al, outs] j []) m []).length)) ?_ ?_ (sub_cons rfl (sub_cons rfl sub_nil)) (sub_cons rfl (sub_cons rfl (sub_cons rfl (sub_cons rfl (sub_cons rfl (sub_cons rfl (sub_cons rfl (sub_cons rfl (sub_cons rfl (sub_cons rfl (sub_cons rfl (sub_cons rfl (sub_cons rfl (sub_cons rfl (sub_cons rfl sub_nil))))))))))))))) (fun _ h => by try dsimp only; exact subC_st h)
    ·try dsimp only
     exact ⟨by omega, by rw [Lib.lens_take_succ _ _ _ (get_nth (d := []) hml), hn2]; omega⟩
    ·try dsimp only
     show (nth [al, outs] j []).length - (m + 1) < (nth [al, outs] j []).length - m
     omega
   ·try simp at hc2
    have hml : m = (nth [al, outs] j []).length := by omega
    rw [hml, List.take_length] at hn2; refine t_exit ?_; refine n_exit_then ?_; refine n_exit_then ?_; refine n_exit_block ?_; refine n_then ?_; refine t_region ?_; refine l_q rfl rfl rfl (q_move rfl rfl) ?_; refine l_q rfl rfl rfl (q_move rfl rfl) ?_; refine l_q rfl rfl rfl ((by exact q_len rfl Tryz.underlying24 rfl (Sl.lenOf (two_sl hsvJ hovJ hj2) (List.length_map _)))) ?_; refine l_q rfl rfl rfl (q_add64 rfl rfl rfl (by omega)) ?_; refine l_q rfl rfl rfl (q_assign rfl rfl) ?_; refine l_nil ?_; refine n_block ?_; refine n_then ?_; refine t_region ?_; refine l_q rfl rfl rfl (q_add64 rfl rfl rfl (by omega)) ?_; refine l_q rfl rfl rfl (q_move rfl rfl) ?_; refine l_nil ?_; refine n_roundE ((j + 1, n2 + (nth [al, outs] j []).length)) ?_ ?_ (sub_cons rfl (sub_cons rfl sub_nil)) (sub_cons rfl (sub_cons rfl (sub_cons rfl (sub_cons rfl (sub_cons rfl (sub_cons rfl (sub_cons rfl (sub_cons rfl (sub_cons rfl (sub_cons rfl sub_nil)))))))))) (fun _ h => by try dsimp only; exact subC_st h)
    ·try dsimp only
     exact ⟨by omega, by rw [sizL_snoc (by simpa using hj2), hn2, hn]; unfold sizN; omega⟩
    ·try dsimp only
     show 2 - (j + 1) < 2 - j
     omega
  ·try simp at hc1
   have hj2 : j = 2 := by omega
   subst hj2
   have hn9 : n = smallN vars al outs s := by rw [hn]; show _ + ((Lib.lens al + al.length) + ((Lib.lens outs + outs.length) + 0)) = s.length + valsN vars + (Lib.lens al + al.length) + (Lib.lens outs + outs.length); omega
   refine t_exit ?_; refine n_exit_then ?_; refine n_exit_then ?_; refine n_exit_block ?_; refine n_then ?_; refine t_seq ?_; refine t_qreg ?_; refine s_q rfl rfl rfl (q_move rfl rfl) ?_; refine s_q rfl rfl rfl (q_leq rfl rfl rfl) ?_; refine s_q rfl rfl rfl (q_move rfl rfl) ?_
   refine s_and2 4 2 55 60 59 _ _ rfl rfl rfl rfl rfl rfl (fun h60 => by
     try simp at h60
     refine s_g rfl rfl rfl rfl rfl rfl (q_fieldAddr rfl Tryz.underlying26 rfl rfl ti23 rfl rfl) ?_; refine s_g rfl rfl rfl rfl rfl rfl ((by exact q_load_row rfl Tryz.underlying23 rfl rfl (by rfl))) ?_; refine s_g rfl rfl rfl rfl rfl rfl ((by exact q_len rfl Tryz.underlying23 rfl (Sl.lenOf hvv (List.length_map _)))) ?_; refine s_g rfl rfl rfl rfl rfl rfl (q_leq rfl rfl rfl) ?_; exact s_val rfl
    ) (wanted_n rfl) rfl rfl rfl ?_
   refine s_q rfl rfl rfl (q_assign rfl rfl) ?_; refine s_done ?_; refine n_then ?_; refine t_ret ?_; refine n_ret1 rfl rfl (fun w' hw => ?_); refine ⟨?_, (hw.less hJz).below⟩; unfold smallB; rw [← hn9, show decide (n ≤ 1500) = decide ((n : Int) ≤ 1500) from decide_eq_decide.2 (by omega), show decide (vars.length ≤ 20) = decide ((vars.length : Int) ≤ 20) from decide_eq_decide.2 (by omega)]
   try rfl
set_option maxRecDepth 10000 in
theorem texts_pure (v1 v2 : Value) (l m : List (List UInt8)) (w : World) (h1 : Sl (look w) 1 v1 (l.map svC)) (h2 : Sl (look w) 1 v2 (m.map svC)) (hl : l.length ≤ 1000000000) : Pure Tryz.prog 16 [v1, v2] w (.bool (decide (l = m))) := by
 refine enter Tryz.func16 rfl Tryz.ntmps16 rfl (St.start w (look w) (Le.refl _)) ?_; refine t_seq ?_; refine t_region ?_; refine l_q rfl rfl rfl (q_assign rfl rfl) ?_; refine l_nil ?_; refine n_then ?_; refine t_seq ?_; refine t_seq ?_; refine t_region ?_; refine l_q rfl rfl rfl (q_move rfl rfl) ?_; refine l_q rfl rfl rfl ((by exact q_len rfl Tryz.underlying24 rfl (Sl.lenOf h1 (List.length_map _)))) ?_; refine l_q rfl rfl rfl (q_move rfl rfl) ?_; refine l_q rfl rfl rfl ((by exact q_len rfl Tryz.underlying24 rfl (Sl.lenOf h2 (List.length_map _)))) ?_; refine l_q rfl rfl rfl (q_neq rfl rfl rfl) ?_; refine l_nil ?_; refine n_then ?_; refine t_cond rfl (fun hc0 => ?_) (fun hc0 => ?_)
 ·try simp at hc0
  have hne : l.length ≠ m.length := by omega
  refine t_seq ?_; refine t_region ?_; refine l_q rfl rfl rfl (q_assign rfl rfl) ?_; refine l_nil ?_; refine n_then ?_; refine t_ret ?_; refine n_ret_then ?_; refine n_ret1 rfl rfl (fun w' hw => ?_); refine ⟨?_, hw.below⟩; rw [decide_eq_false (fun h9 => hne (by rw [h9]))]
 ·try simp at hc0
  have hlm : l.length = m.length := by omega
  refine t_skip ?_; refine n_then ?_; refine t_seq ?_; refine t_seq ?_; refine t_region ?_; refine l_q rfl rfl rfl (q_assign rfl rfl) ?_; refine l_nil ?_; refine n_then ?_; refine t_block ?_; refine t_loopE (ι := Nat) (fun zz => zz ≤ l.length ∧ ∀ k, k < zz → nth l k [] = nth m k []) (fun zz => l.length - zz) (fun zz => [(5, .int .i64 (zz : Int))]) [(0, _), (1, _), (10, _)] (fun zz => look w) (fun zz => []) 0 ?_ (sub_cons rfl sub_nil) (sub_cons rfl (sub_cons rfl (sub_cons rfl sub_nil))) (fun _ h => subC_st h) ?_
  ·try dsimp only
   exact ⟨Nat.zero_le _, fun k h => absurd h (Nat.not_lt_zero _)⟩
  rintro i ⟨hi, heq⟩
  try dsimp only at *
  refine t_seq ?_; refine t_seq ?_; refine t_region ?_; refine l_q rfl rfl rfl (q_move rfl rfl) ?_; refine l_q rfl rfl rfl (q_move rfl rfl) ?_; refine l_q rfl rfl rfl ((by exact q_len rfl Tryz.underlying24 rfl (Sl.lenOf h1 (List.length_map _)))) ?_; refine l_q rfl rfl rfl (q_lss rfl rfl rfl) ?_; refine l_nil ?_; refine n_then ?_; refine t_cond rfl (fun hc1 => ?_) (fun hc1 => ?_)
  ·try simp at hc1
   have hil : i < l.length := by omega
   refine t_skip ?_; refine n_then ?_; refine t_seq ?_; refine t_block ?_; refine t_seq ?_; refine t_qdraw mo (by kernel_rfl) (fun _ _ _ _ _ h => h) ?_; refine s_q rfl rfl rfl (q_move rfl rfl) ?_; refine s_q rfl rfl rfl (q_move rfl rfl) ?_; refine s_q rfl rfl rfl ((by exact q_indexAddrN rfl Tryz.underlying24 ti9 rfl rfl (Sl.shape h1 (List.length_map _)) (by omega))) ?_; refine s_q rfl rfl rfl ((by exact q_load rfl Tryz.underlying9 rfl rfl (rd_sv (i := i) h1 (by omega)))) ?_; refine s_q rfl rfl rfl (q_move rfl rfl) ?_; refine s_q rfl rfl rfl (q_move rfl rfl) ?_; refine s_q rfl rfl rfl ((by exact q_indexAddrN rfl Tryz.underlying24 ti9 rfl rfl (Sl.shape h2 (List.length_map _)) (by omega))) ?_; refine s_q rfl rfl rfl ((by exact q_load rfl Tryz.underlying9 rfl rfl (rd_sv (i := i) h2 (by omega)))) ?_; refine s_q rfl rfl rfl (q_neq_str rfl rfl rfl) ?_; refine s_done ?_; refine n_then ?_; refine t_cond rfl (fun hc2 => ?_) (fun hc2 => ?_)
   ·have hsame : nth l i [] ≠ nth m i [] := of_decide_eq_true hc2
    refine t_seq ?_; refine t_region ?_; refine l_q rfl rfl rfl (q_assign rfl rfl) ?_; refine l_nil ?_; refine n_then ?_; refine t_ret ?_; refine n_ret_block ?_; refine n_ret_then ?_; refine n_ret_then ?_; refine n_ret_block ?_; refine n_ret_then ?_; refine n_ret1 rfl rfl (fun w' hw => ?_); refine ⟨?_, hw.below⟩; rw [decide_eq_false (fun h9 => hsame (by rw [h9]))]
   ·have hsame : nth l i [] = nth m i [] := Decidable.of_not_not (of_decide_eq_false hc2)
    refine t_skip ?_; refine n_block ?_; refine n_then ?_; refine t_region ?_; refine l_q rfl rfl rfl (q_move rfl rfl) ?_; refine l_q rfl rfl rfl (q_add64 rfl rfl rfl (by omega)) ?_; refine l_q rfl rfl rfl (q_assign rfl rfl) ?_; refine l_nil ?_; refine n_roundE (i + 1) ?_ ?_ (sub_cons rfl sub_nil) (sub_cons rfl (sub_cons rfl (sub_cons rfl sub_nil))) (fun _ h => by try dsimp only; exact subC_st h)
    ·try dsimp only
     refine ⟨by omega, fun k hk => ?_⟩; rcases Nat.lt_succ_iff_lt_or_eq.1 hk with h | rfl
     ·exact heq k h
     ·exact hsame
    ·try dsimp only
     show l.length - (i + 1) < l.length - i
     omega
  ·try simp at hc1
   have hil : i = l.length := by omega
   have hlm2 : l = m := beq_lists hlm [] (fun k hk => heq k (by omega))
   refine t_exit ?_; refine n_exit_then ?_; refine n_exit_then ?_; refine n_exit_block ?_; refine n_then ?_; refine t_seq ?_; refine t_region ?_; refine l_q rfl rfl rfl (q_assign rfl rfl) ?_; refine l_nil ?_; refine n_then ?_; refine t_ret ?_; refine n_ret1 rfl rfl (fun w' hw => ?_); refine ⟨?_, hw.below⟩; rw [decide_eq_true hlm2]
end Go.Tri

/-
 The statement walked: quotes.
-/
namespace Go.Tri
open Go.Proofs Go.RowKit
set_option maxRecDepth 10000 in
set_option maxHeartbeats 2000000 in
theorem expandQuotes_pure (vars : List Vr) (al outs ps : List (List UInt8)) (vv sv ov pv : Value) (s : List UInt8) (w : World) (hG : EnvI (look w)) (hvv : Sl (look w) 5 vv (vars.map vrC)) (hsv : Sl (look w) 1 sv (al.map svC)) (hov : Sl (look w) 1 ov (outs.map svC)) (hpv : Sl (look w) 1 pv (ps.map svC)) (hsm : smallN vars al outs s ≤ 1000000000) (hvl : vars.length ≤ 10000000) (hvn : ∀ v ∈ vars, v.name.length ≤ 1000000000) (hps : ∀ s ∈ ps, s.length ≤ 100000000) (hpl : ps.length ≤ 1000000000) (hs9 : s.length ≤ 10000000) (hal9 : al.length ≤ 10000000) : Pure Tryz.prog 6 [.agg #[vv, sv, ov, pv], str s] w (.bool true) := by
 have hqn := quoteB_le s
 refine enter Tryz.func6 rfl Tryz.ntmps6 rfl (St.start w (look w) (Le.refl _)) ?_; refine t_seq ?_; refine t_region ?_; refine l_e rfl rfl rfl (e_box rfl rfl rfl) ?_; rintro _ _ _ ⟨b2, rfl, rfl, rfl⟩; refine l_q rfl rfl rfl (q_assign rfl rfl) ?_; refine l_nil ?_; refine n_then ?_; refine t_seq ?_; refine t_seq ?_; refine t_region ?_; refine l_q rfl rfl rfl (quiet_call rfl rfl rfl Tryz.func7 (by kernel_rfl) rfl ((fun w hw => awake_pure w (hG.mono hw.le)))) ?_; refine l_q rfl rfl rfl (q_not rfl rfl) ?_; refine l_nil ?_; refine n_then ?_; refine t_cond rfl (fun hc0 => ?_) (fun hc0 => ?_)
 ·cases hc0
 ·refine t_skip ?_; refine n_then ?_; refine t_seq ?_; refine t_seq ?_; refine t_region ?_; refine l_q rfl rfl rfl (q_load_rowA rfl Tryz.underlying26 ti26 rfl rfl rfl) ?_; refine l_q rfl rfl rfl (q_move rfl rfl) ?_; refine l_q rfl rfl rfl (quiet_call rfl rfl rfl Tryz.func15 (by kernel_rfl) rfl ((fun w hw => small_pure vars al outs vv sv ov pv hpv.one s w (hvv.mono hw.le) (hsv.mono hw.le) (hov.mono hw.le) hsm (by omega)))) ?_; refine l_q rfl rfl rfl (q_not rfl rfl) ?_; refine l_nil ?_; refine n_then ?_; refine t_cond rfl (fun hc1 => ?_) (fun hc1 => ?_)
  ·refine t_seq ?_; refine t_region ?_; refine l_q rfl rfl rfl (q_assign rfl rfl) ?_; refine l_nil ?_; refine n_then ?_; refine t_ret ?_; refine n_ret_then ?_; refine n_ret1 rfl rfl (fun w' hw => ?_); exact ⟨rfl, hw.below⟩
  ·have hsb : smallB vars al outs s = true := by rw [Bool.not_eq_false'] at hc1; exact hc1
   unfold smallB at hsb; rw [Bool.and_eq_true, decide_eq_true_eq, decide_eq_true_eq] at hsb
   have hsz := hsb.1
   have hsz2 : s.length + valsN vars + (Lib.lens al + al.length) + (Lib.lens outs + outs.length) ≤ 1500 := hsz
   have hal4 : ∀ a ∈ (⟨layV vars, argsN al, outs, []⟩ : Hx).args, a.length ≤ 4096 := fun a ha => by have h9 := (hb_small hsz).aa a ha; have h8 := argsN_siz al; have h7 : a.length ≤ Lib.lens (argsN al) := len_lens ha; unfold sizN at h8; omega
   refine t_skip ?_; refine n_then ?_; refine t_seq ?_; refine t_region ?_; refine l_q rfl rfl rfl (q_load_rowA rfl Tryz.underlying26 ti26 rfl rfl rfl) ?_; refine l_e rfl rfl rfl (eff_call rfl rfl rfl Tryz.func11 (by kernel_rfl) rfl (fun w hw => setp_calls vars al outs ps vv sv ov pv (by omega) hvn (by omega) hps hpl _ hvv hsv hov hpv _ _ w hw)) ?_; rintro _ J18 _ ⟨hJ18, p, lv, bf, vf, Lf, rfl, hpf, rfl, hi18, hfs18, hml18⟩; refine l_q rfl rfl rfl (q_assign rfl rfl) ?_; refine l_nil ?_; refine n_then ?_; refine t_seq ?_; refine t_region ?_; refine l_q rfl rfl rfl (q_move rfl rfl) ?_; refine l_q rfl rfl rfl (q_build (pl := [(_, _)]) (cs := (([.pointer (some ⟨p.eb, 0, none⟩)] : List Value)).toArray) rfl Tryz.underlying37 ti37 ⟨rfl, ⟨_, _, ti34⟩, trivial⟩ rfl rfl) ?_; refine l_e rfl rfl rfl (e_box rfl rfl rfl) ?_; rintro _ _ _ ⟨b22, rfl, rfl, rfl⟩; refine l_heap (H' := hostH { p with hb := b22 } lv nilV ⟨layV vars, argsN al, outs, []⟩ [row b2 26 [vv, sv, ov, pv]]) ?_ (fun _ h => host_start h); refine l_q rfl rfl rfl (q_makeIface rfl Tryz.underlying33 rfl rfl) ?_; refine l_q rfl rfl rfl (q_move rfl rfl) ?_; refine l_q rfl rfl rfl (quiet_call rfl rfl rfl Tryz.func8 (by kernel_rfl) rfl ((fun w hw => quote_pure s w (by omega) (hG.mono (hJ18.trans hw.le))))) ?_
   refine l_e rfl rfl rfl (eff_call rfl rfl rfl Tryz.func13 (by kernel_rfl) rfl (fun w hw => fieldsx_calls { p with hb := b22 } (quoteB s) (by omega) ⟨layV vars, argsN al, outs, []⟩ (expOk_of { p with hb := b22 } (hb_small hsz) (Nat.zero_le _) (quote_okT (by omega))).1 (expOk_of { p with hb := b22 } (hb_small hsz) (Nat.zero_le _) (quote_okT (by omega))).2 noPf noPf_le (pathsAre_no (quote_wild _ (by omega)) noPf) lv nilV J18 [row b2 26 [vv, sv, ov, pv]] _ w (hG.mono hJ18) (hi18.hb b22) hw)) ?_; rintro _ J26 _ ⟨hJ26, lv2, av2, v1, rfl, rfl, hi26, hv26⟩; rw [flds_quote _ _ (by omega)] at hv26 hi26 ⊢; refine l_heap (H' := hostH { p with hb := b22 } lv2 av2 ⟨layV vars, argsN al, outs, []⟩ [row b2 26 [vv, sv, ov, pv]]) ?_ (fun _ h => h); refine l_q rfl rfl rfl (q_move rfl rfl) ?_; refine l_q rfl rfl rfl (q_extract rfl rfl rfl) ?_; refine l_q rfl rfl rfl (q_extract rfl rfl rfl) ?_; refine l_q rfl rfl rfl (q_extract rfl rfl rfl) ?_; refine l_q rfl rfl rfl (q_assign rfl rfl) ?_; refine l_q rfl rfl rfl (q_assign rfl rfl) ?_; refine l_q rfl rfl rfl (q_assign rfl rfl) ?_; refine l_nil ?_; refine n_then ?_; refine t_seq ?_; refine t_seq ?_; refine t_qreg ?_; refine s_q rfl rfl rfl (q_move rfl rfl) ?_; refine s_q rfl rfl rfl (q_neq rfl rfl rfl) ?_; refine s_q rfl rfl rfl (q_move rfl rfl) ?_
   refine s_or2 3 2 32 36 35 _ _ rfl rfl rfl rfl rfl rfl (fun h36 => by
     try simp at h36
     refine s_g rfl rfl rfl rfl rfl rfl (q_move rfl rfl) ?_; refine s_g rfl rfl rfl rfl rfl rfl ((by exact q_len rfl Tryz.underlying24 rfl (Sl.lenOf (n := 1) hv26 rfl))) ?_; refine s_g rfl rfl rfl rfl rfl rfl (q_neq rfl rfl rfl) ?_; exact s_val rfl
    ) (wanted_n rfl) rfl rfl rfl ?_
   refine s_q rfl rfl rfl (q_move rfl rfl) ?_
   refine s_or2 5 7 37 43 42 _ _ rfl rfl rfl rfl rfl rfl (fun h43 => by
     try simp at h43
     refine s_g rfl rfl rfl rfl rfl rfl (q_move rfl rfl) ?_; refine s_g rfl rfl rfl rfl rfl rfl ((by exact q_indexAddr rfl Tryz.underlying24 ti9 rfl rfl (Sl.shape (n := 1) hv26 rfl) (by omega))) ?_; refine s_g rfl rfl rfl rfl rfl rfl ((by exact q_load rfl Tryz.underlying9 rfl rfl (rd_sv (i := 0) (l := [s]) hv26 (by simp)))) ?_; refine s_g rfl rfl rfl rfl rfl rfl (q_move rfl rfl) ?_; refine s_g rfl rfl rfl rfl rfl rfl (q_neq_str rfl rfl rfl) ?_; exact s_val rfl
    ) (wanted_n rfl) rfl rfl rfl ?_
   refine s_done ?_; refine n_then ?_; refine t_cond rfl (fun hc2 => ?_) (fun hc2 => ?_)
   ·simp [nth] at hc2
   ·refine t_skip ?_; refine n_then ?_; refine t_seq ?_; refine t_region ?_; refine l_q rfl rfl rfl (q_move rfl rfl) ?_; refine l_q rfl rfl rfl (q_build (pl := [(_, _)]) (cs := (([.pointer (some ⟨p.eb, 0, none⟩)] : List Value)).toArray) rfl Tryz.underlying37 ti37 ⟨rfl, ⟨_, _, ti34⟩, trivial⟩ rfl rfl) ?_; refine l_e rfl rfl rfl (e_box rfl rfl rfl) ?_; rintro _ _ _ ⟨b47, rfl, rfl, rfl⟩; refine l_heap (H' := hostH { p with hb := b47 } lv2 av2 ⟨layV vars, argsN al, outs, []⟩ [row b2 26 [vv, sv, ov, pv]]) ?_ (fun _ h => by dsimp only [hostH, envC] at h ⊢; exact subC_st h); refine l_q rfl rfl rfl (q_makeIface rfl Tryz.underlying33 rfl rfl) ?_; refine l_e rfl rfl rfl (eff_call rfl rfl rfl Tryz.func13 (by kernel_rfl) rfl (fun w hw => fieldsx_calls { p with hb := b47 } atW (by decide) ⟨layV vars, argsN al, outs, []⟩ (expOk_of { p with hb := b47 } (hb_small hsz) (Nat.zero_le _) at_okT).1 (expOk_of { p with hb := b47 } (hb_small hsz) (Nat.zero_le _) at_okT).2 noPf noPf_le (pathsAre_no (at_wild _) noPf) lv2 av2 J26 [row b2 26 [vv, sv, ov, pv]] _ w (hG.mono (hJ18.trans hJ26)) (hi26.hb b47) hw)) ?_; rintro _ J49 _ ⟨hJ49, lv3, av3, v2, rfl, rfl, hi49, hv49⟩; rw [flds_args _ _ (argsN_len al) hal4] at hv49 hi49 ⊢; refine l_heap (H' := hostH { p with hb := b47 } lv3 av3 ⟨layV vars, argsN al, outs, []⟩ [row b2 26 [vv, sv, ov, pv]]) ?_ (fun _ h => h); refine l_q rfl rfl rfl (q_move rfl rfl) ?_; refine l_q rfl rfl rfl (q_extract rfl rfl rfl) ?_; refine l_q rfl rfl rfl (q_extract rfl rfl rfl) ?_
    refine l_q rfl rfl rfl (q_extract rfl rfl rfl) ?_; refine l_q rfl rfl rfl (q_assign rfl rfl) ?_; refine l_q rfl rfl rfl (q_assign rfl rfl) ?_; refine l_nil ?_; refine n_then ?_; refine t_seq ?_; refine t_seq ?_; refine t_region ?_; refine l_q rfl rfl rfl (q_fieldAddr rfl Tryz.underlying26 rfl rfl ti24 rfl rfl) ?_; refine l_q rfl rfl rfl ((by exact q_load_row rfl Tryz.underlying24 rfl rfl (by rfl))) ?_; refine l_q rfl rfl rfl ((by exact q_len rfl Tryz.underlying24 rfl (Sl.lenOf hsv (List.length_map _)))) ?_; refine l_q rfl rfl rfl (q_move rfl rfl) ?_; refine l_nil ?_; refine n_then ?_; refine t_block ?_; refine t_loopE (ι := Nat) (fun zz => zz ≤ al.length) (fun zz => al.length - zz) (fun zz => [(56, .int .i64 (zz : Int))]) [(0, _), (1, _), (2, _), (12, _), (16, _), (5, _), (6, _), (8, _), (43, _), (54, _), (55, _)] (fun zz => J49) (fun zz => (hostH { p with hb := b47 } lv3 av3 ⟨layV vars, argsN al, outs, []⟩ [row b2 26 [vv, sv, ov, pv]])) 0 ?_ (sub_cons rfl sub_nil) (sub_cons rfl (sub_cons rfl (sub_cons rfl (sub_cons rfl (sub_cons rfl (sub_cons rfl (sub_cons rfl (sub_cons rfl (sub_cons rfl (sub_cons rfl (sub_cons rfl sub_nil))))))))))) (fun _ h => subC_st h) ?_
    ·try dsimp only
     exact Nat.zero_le _
    rintro k hk
    try dsimp only at *
    refine t_seq ?_; refine t_region ?_; refine l_q rfl rfl rfl (q_lss rfl rfl rfl) ?_; refine l_nil ?_; refine n_then ?_; refine t_seq ?_; refine t_cond rfl (fun hc3 => ?_) (fun hc3 => ?_)
    ·try simp at hc3
     have hkl : k < al.length := by omega
     refine t_skip ?_; refine n_then ?_; refine t_seq ?_; refine t_block ?_; refine t_seq ?_; refine t_region ?_; refine l_q rfl rfl rfl ((by exact q_indexAddrN rfl Tryz.underlying24 ti9 rfl rfl (Sl.shape hsv (List.length_map _)) (by omega))) ?_; refine l_q rfl rfl rfl ((by exact q_load rfl Tryz.underlying9 rfl rfl (rd_sv (i := k) (hsv.mono (hJ18.trans (hJ26.trans hJ49))) (by omega)))) ?_; refine l_q rfl rfl rfl (q_assign rfl rfl) ?_; refine l_nil ?_; refine n_then ?_; refine t_seq ?_; refine t_region ?_; refine l_q rfl rfl rfl (q_move rfl rfl) ?_; refine l_q rfl rfl rfl (q_len_str rfl Tryz.underlying9 rfl) ?_; refine l_q rfl rfl rfl (q_gtr rfl rfl rfl) ?_; refine l_nil ?_; refine n_then ?_; refine t_cond rfl (fun hc4 => ?_) (fun hc4 => ?_)
     ·try simp at hc4
      refine t_seq ?_; refine t_region ?_; refine l_q rfl rfl rfl (q_assign rfl rfl) ?_; refine l_nil ?_; refine n_then ?_; refine t_ret ?_; refine n_ret_block ?_; refine n_ret_then ?_; refine n_ret_then ?_; refine n_ret_block ?_; refine n_ret_then ?_; refine n_ret1 rfl rfl (fun w' hw => ?_); refine ⟨?_, (hw.less (hJ18.trans (hJ26.trans hJ49))).below⟩
      rfl
     ·try simp at hc4
      refine t_skip ?_; refine n_block ?_; refine n_then ?_; refine t_region ?_; refine l_q rfl rfl rfl (q_add64 rfl rfl rfl (by omega)) ?_; refine l_q rfl rfl rfl (q_move rfl rfl) ?_; refine l_nil ?_; refine n_roundE (k + 1) ?_ ?_ (sub_cons rfl sub_nil) (sub_cons rfl (sub_cons rfl (sub_cons rfl (sub_cons rfl (sub_cons rfl (sub_cons rfl (sub_cons rfl (sub_cons rfl (sub_cons rfl (sub_cons rfl (sub_cons rfl sub_nil))))))))))) (fun _ h => by try dsimp only; exact subC_st h)
      ·try dsimp only
       show k + 1 ≤ _
       omega
      ·try dsimp only
       show al.length - (k + 1) < al.length - k
       omega
    ·try simp at hc3
     have hkl : k = al.length := by omega
     refine t_exit ?_; refine n_exit_then ?_; refine n_exit_then ?_; refine n_exit_block ?_; refine n_then ?_; refine t_seq ?_; refine t_qreg ?_; refine s_q rfl rfl rfl (q_fieldAddr rfl Tryz.underlying26 rfl rfl ti24 rfl rfl) ?_; refine s_q rfl rfl rfl ((by exact q_load_row rfl Tryz.underlying24 rfl rfl (by rfl))) ?_; refine s_q rfl rfl rfl ((by exact q_len rfl Tryz.underlying24 rfl (Sl.lenOf hsv (List.length_map _)))) ?_; refine s_q rfl rfl rfl (q_gtr rfl rfl rfl) ?_; refine s_q rfl rfl rfl (q_move rfl rfl) ?_
     refine s_or2 8 4 68 77 76 _ _ rfl rfl rfl rfl rfl rfl (fun h77 => by
       try simp at h77
       refine s_g rfl rfl rfl rfl rfl rfl (q_move rfl rfl) ?_; refine s_g rfl rfl rfl rfl rfl rfl (q_eql rfl rfl rfl) ?_; refine s_g rfl rfl rfl rfl rfl rfl (q_move rfl rfl) ?_
       refine s_and2 4 7 71 76 75 _ _ rfl rfl rfl rfl rfl rfl (fun h76 => by
         try simp at h76
         refine s_g rfl rfl rfl rfl rfl rfl (q_move rfl rfl) ?_; refine s_g rfl rfl rfl rfl rfl rfl (q_fieldAddr rfl Tryz.underlying26 rfl rfl ti24 rfl rfl) ?_; refine s_g rfl rfl rfl rfl rfl rfl ((by exact q_load_row rfl Tryz.underlying24 rfl rfl (by rfl))) ?_; refine s_g rfl rfl rfl rfl rfl rfl (quiet_call rfl rfl rfl Tryz.func16 (by kernel_rfl) rfl ((fun w hw => texts_pure v2 sv (argsN al) al w (hv49.mono hw.le) (hsv.mono ((hJ18.trans (hJ26.trans hJ49)).trans hw.le)) (by have := argsN_len al; omega)))) ?_; exact s_val rfl
        ) (wanted_g rfl rfl rfl rfl) rfl rfl rfl ?_
       exact s_val rfl
      ) (wanted_n rfl) rfl rfl rfl ?_
     refine s_q rfl rfl rfl (q_assign rfl rfl) ?_; refine s_done ?_; refine n_then ?_; refine t_ret ?_; refine n_ret1 rfl rfl (fun w' hw => ?_); refine ⟨?_, (hw.less (hJ18.trans (hJ26.trans hJ49))).below⟩
     by_cases h9 : al.length ≤ 200
     ·have h8 : argsN al = al := if_pos h9
      rw [h8]; simp
     ·simp; omega
end Go.Tri
