/-
 A small scene; texts compared.
-/
import Derived.Test.YtmjcakamgeepbaaGreatDoorEM8
import Derived.Test.YtmjcakamgeepbaaGreatDoorEG4
import Derived.Test.YtmjcakamgeepbaaGreatDoorPExV
namespace Go.Tri
open Go.Proofs Go.RowKit
set_option maxRecDepth 10000
theorem small_pure (vars : List Vr) (al outs : List (List UInt8)) (vv sv ov pv : Value) (hpv : One pv) (s : List UInt8) (w : World) (hvv : Sl (look w) 5 vv (vars.map vrC)) (hsv : Sl (look w) 1 sv (al.map svC)) (hov : Sl (look w) 1 ov (outs.map svC)) (hsm : smallN vars al outs s ≤ 1000000000) (hvl : vars.length ≤ 1000000000) : Pure Tryz.prog 5 [.agg #[vv, sv, ov, pv], str s] w (.bool (smallB vars al outs s)) := by
 have hsm2 : s.length + valsN vars + (Lib.lens al + al.length) + (Lib.lens outs + outs.length) ≤ 1000000000 := hsm
 refine enter Tryz.func5 rfl Tryz.ntmps5 rfl (St.start w (look w) (Le.refl _)) (tr (le rfl (e_box rfl rfl rfl) ?_)); rintro _ _ _ ⟨b2, rfl, rfl, rfl⟩; refine lrun rfl (tr (l_run 1 rfl (lq rfl (q_len_str rfl un9 rfl) (lrun rfl (t_seq (tr (l_run 1 rfl (lq rfl ((by exact q_ld rfl rfl (by rfl))) ?_)))))))); refine lq rfl ((by exact q_len rfl un22 rfl (Sl.lenOf hvv (List.length_map _)))) ?_; refine lrun rfl (t_block (t_loopE (ι := Nat × Nat) (fun zz => zz.1 ≤ vars.length ∧ zz.2 = s.length + valsN (vars.take zz.1)) (fun zz => vars.length - zz.1) (fun zz => [(17, .int .i64 (zz.1 : Int)), (5, .int .i64 (zz.2 : Int))]) [(0, _), (1, _), (2, _), (4, _), (15, _), (16, _)] (fun zz => look w) (fun zz => [row b2 25 [vv, sv, ov, pv]]) (0, s.length) ?_ (sub_rfl rfl) (sub_rfl rfl) (fun _ h => subC_st h) ?_))
 ·dsimp only; exact ⟨Nat.zero_le _, rfl⟩
 rintro ⟨i, n⟩ ⟨hi, hn⟩; dsimp only at *
 have hvle := valsN_le vars i
 refine trun rfl (t_seq (t_cond rfl (fun hc0 => ?_) (fun hc0 => ?_)))
 ·simp at hc0
  have hil : i < vars.length := by omega
  have hs1 := valsN_snoc hil
  have hle1 := valsN_le vars (i + 1)
  refine tskip (t_seq (t_block (tr ?_))); refine lq rfl ((by exact q_indexAddrN rfl un22 ti39 rfl rfl (Sl.shape hvv (List.length_map _)) (by omega))) ?_; refine lq rfl ((by exact q_load_agg rfl un39 ti39 rfl rfl (rds_vr (i := i) hvv (by omega)))) ?_; refine le rfl (e_alloc rfl ti39 rfl) ?_; rintro _ _ _ ⟨b7, rfl, rfl, rfl⟩; refine l_e0 rfl rfl ((by exact e_store_all rfl ti39 rfl rfl rfl (by exact vrC_ones _) rfl)) ?_; rintro _ _ _ ⟨rfl, rfl⟩; refine l_heap (H' := row b7 39 (vrC (nth vars i vr0)) :: _) ?_ (fun _ h => h); refine ln (t_region (l_run 2 rfl (lq rfl ((by exact q_ld rfl rfl (by rfl))) ?_))); refine lq rfl (q_len_str rfl un9 rfl) (lq rfl (q_add64 rfl rfl rfl (by omega)) ?_); refine l_runA rfl (n_block (n_then (t_region (lq rfl (q_add64 rfl rfl rfl (by omega)) ?_)))); refine l_runA rfl (n_roundE ((i + 1, n + (nth vars i vr0).value.length)) ?_ ?_ (sub_rfl rfl) (sub_rfl rfl) (fun _ h => by dsimp only; exact subC_st h))
  ·dsimp only; exact ⟨by omega, by rw [valsN_snoc hil, hn]; omega⟩
  ·dsimp only
   show vars.length - (i + 1) < vars.length - i
   omega
 ·simp at hc0
  have hil : i = vars.length := by omega
  rw [hil, List.take_length] at hn; refine t_exit (n_exit_then (n_exit_then (n_exit_block (n_then (t_seq (tr (l_run 1 rfl (lq rfl ((by exact q_ld rfl rfl (by rfl))) ?_)))))))); refine l_run 1 rfl (lq rfl ((by exact q_ld rfl rfl (by rfl))) ?_); refine le rfl (e_buildSliceN (vs := [_, _]) (css := [[sv], [ov]]) rfl un40 ti23 rfl rfl rfl rfl (by simp [hsv.one.1, hov.one.1]) (by simp [pcC, chC])) ?_; rintro _ _ _ ⟨b31, rfl, rfl, rfl⟩; refine l_freezeRow b31 (fun Jz hJz hk31 => ?_)
  have hrw := sl_row (f := oneC) (sz := 1) [sv, ov] hk31 rfl rfl (fun _ => rfl)
  have hsvJ := hsv.mono hJz
  have hovJ := hov.mono hJz
  refine lq rfl ((by exact q_len rfl un40 rfl (Sl.lenOf (n := 2) hrw rfl))) ?_; refine lrun rfl (t_block (t_loopE (ι := Nat × Nat) (fun zz => zz.1 ≤ 2 ∧ zz.2 = s.length + valsN vars + sizL ([al, outs].take zz.1)) (fun zz => 2 - zz.1) (fun zz => [(33, .int .i64 (zz.1 : Int)), (5, .int .i64 (zz.2 : Int))]) [(17, _), (0, _), (1, _), (2, _), (4, _), (15, _), (16, _), (18, _), (31, _), (32, _)] (fun zz => Jz) (fun zz => [row b2 25 [vv, sv, ov, pv]]) (0, n) ?_ (sub_rfl rfl) (sub_rfl rfl) (fun _ h => subC_st h) ?_))
  ·dsimp only; exact ⟨Nat.zero_le _, hn⟩
  rintro ⟨j, n⟩ ⟨hj, hn⟩; dsimp only at *
  have hle := sizL_le [al, outs] j
  have hlt : sizL [al, outs] = (Lib.lens al + al.length) + ((Lib.lens outs + outs.length) + 0) := rfl
  refine trun rfl (t_seq (t_cond rfl (fun hc1 => ?_) (fun hc1 => ?_)))
  ·simp at hc1
   have hj2 : j < 2 := by omega
   have hsn := sizL_snoc (ll := [al, outs]) (i := j) (by simpa using hj2)
   have hle1 := sizL_le [al, outs] (j + 1)
   have hsz : sizN (nth [al, outs] j []) = Lib.lens (nth [al, outs] j []) + (nth [al, outs] j []).length := rfl
   refine tskip (t_seq (t_block (tr ?_))); refine lq rfl ((by exact q_indexAddrN rfl un40 ti23 rfl rfl (Sl.shape (n := 2) hrw rfl) (by omega))) ?_; refine lq rfl ((by exact q_ldr rfl rfl (rd_row1 (i := j) hrw (by simpa using hj2)))) ?_; refine lrun rfl (t_seq (tr (l_run 1 rfl ?_))); refine lq rfl ((by exact q_len rfl un23 rfl (Sl.lenOf (two_sl hsvJ hovJ hj2) (List.length_map _)))) ?_; refine lrun rfl (t_block (t_loopE (ι := Nat × Nat) (fun zz => zz.1 ≤ (nth [al, outs] j []).length ∧ zz.2 = n + Lib.lens ((nth [al, outs] j []).take zz.1)) (fun zz => (nth [al, outs] j []).length - zz.1) (fun zz => [(39, .int .i64 (zz.1 : Int)), (5, .int .i64 (zz.2 : Int))]) [(33, _), (17, _), (0, _), (1, _), (2, _), (4, _), (15, _), (16, _), (18, _), (31, _), (32, _), (34, _), (9, _), (37, _), (38, _)] (fun zz => Jz) (fun zz => [row b2 25 [vv, sv, ov, pv]]) (0, n) ?_ (sub_rfl rfl) (sub_rfl rfl) (fun _ h => subC_st h) ?_))
   ·dsimp only; exact ⟨Nat.zero_le _, rfl⟩
   rintro ⟨m, n2⟩ ⟨hm, hn2⟩; dsimp only at *
   have hmle := Lib.lens_take_le (nth [al, outs] j []) m
   refine trun rfl (t_seq (t_cond rfl (fun hc2 => ?_) (fun hc2 => ?_)))
   ·simp at hc2
    have hml : m < (nth [al, outs] j []).length := by omega
    have hs2 := Lib.lens_take_succ _ _ _ (get_nth (d := []) hml)
    have hle2 := Lib.lens_take_le (nth [al, outs] j []) (m + 1)
    refine tskip (t_seq (t_block (tr ?_))); refine lq rfl ((by exact q_indexAddrN rfl un23 ti9 rfl rfl (Sl.shape (two_sl hsvJ hovJ hj2) (List.length_map _)) (by omega))) ?_; refine lq rfl ((by exact q_ldr rfl rfl (rd_sv (i := m) (two_sl hsvJ hovJ hj2) (by omega)))) ?_; refine lrun rfl (t_region (l_run 2 rfl (lq rfl (q_len_str rfl un9 rfl) (lq rfl (q_add64 rfl rfl rfl (by omega)) ?_)))); refine l_runA rfl (n_block (n_then (t_region (lq rfl (q_add64 rfl rfl rfl (by omega)) ?_)))); refine l_runA rfl (n_roundE ((m + 1, n2 + (nth (nth [al, outs] j []) m []).length)) ?_ ?_ (sub_rfl rfl) (sub_rfl rfl) (fun _ h => by dsimp only; exact subC_st h))
    ·dsimp only; exact ⟨by omega, by rw [Lib.lens_take_succ _ _ _ (get_nth (d := []) hml), hn2]; omega⟩
    ·dsimp only
     show (nth [al, outs] j []).length - (m + 1) < (nth [al, outs] j []).length - m
     omega
   ·simp at hc2
    have hml : m = (nth [al, outs] j []).length := by omega
    rw [hml, List.take_length] at hn2; refine t_exit (n_exit_then (n_exit_then (n_exit_block (n_then (t_region (l_run 2 rfl ?_)))))); refine lq rfl ((by exact q_len rfl un23 rfl (Sl.lenOf (two_sl hsvJ hovJ hj2) (List.length_map _)))) ?_; refine lq rfl (q_add64 rfl rfl rfl (by omega)) ?_; refine l_runA rfl (n_block (n_then (t_region (lq rfl (q_add64 rfl rfl rfl (by omega)) ?_)))); refine l_runA rfl (n_roundE ((j + 1, n2 + (nth [al, outs] j []).length)) ?_ ?_ (sub_rfl rfl) (sub_rfl rfl) (fun _ h => by dsimp only; exact subC_st h))
    ·dsimp only; exact ⟨by omega, by rw [sizL_snoc (by simpa using hj2), hn2, hn]; unfold sizN; omega⟩
    ·dsimp only
     show 2 - (j + 1) < 2 - j
     omega
  ·simp at hc1
   have hj2 : j = 2 := by omega
   subst hj2
   have hn9 : n = smallN vars al outs s := by rw [hn]; show _ + ((Lib.lens al + al.length) + ((Lib.lens outs + outs.length) + 0)) = s.length + valsN vars + (Lib.lens al + al.length) + (Lib.lens outs + outs.length); omega
   refine t_exit (n_exit_then (n_exit_then (n_exit_block (n_then (tq (s_run 3 rfl ?_))))))
   refine s_and2 4 2 55 60 59 _ _ rfl rfl rfl rfl rfl rfl (fun h60 => by
     simp at h60
     refine s_runG 1 rfl (sg rfl ((by exact q_ld rfl rfl (by rfl))) ?_); refine sg rfl ((by exact q_len rfl un22 rfl (Sl.lenOf hvv (List.length_map _)))) ?_; refine s_runG 1 rfl ?_; exact s_val rfl
    ) (wanted_n rfl) rfl rfl rfl ?_
   refine s_run 1 rfl (sdn (t_ret (n_ret1 rfl rfl (fun w' hw => ?_)))); refine ⟨?_, (hw.less hJz).below⟩; unfold smallB; rw [← hn9, show decide (n ≤ 1500) = decide ((n : Int) ≤ 1500) from decide_eq_decide.2 (by omega), show decide (vars.length ≤ 20) = decide ((vars.length : Int) ≤ 20) from decide_eq_decide.2 (by omega)]
   try rfl
end Go.Tri

/-
 The statement walked: a word within double quotes.
-/
namespace Go.Tri
open Go.Proofs Go.RowKit
set_option maxRecDepth 10000
theorem dq_okT {s : List UInt8} (hs : s.length ≤ 1500) : ∀ l, partsP (dqW s) 0 = .ok l → cntL l ≤ 2000 ∧ oksT l := fun l hl => by
 have h1 := parts_cnt hl
 have h2 := parts_wgt hl
 have h3 : (dqW s).length = s.length + 2 := by unfold dqW; simp
 exact ⟨by omega, oks_wgt l (by omega)⟩
theorem not_mem_nth {s : List UInt8} {c : UInt8} (h : ∀ k, k < s.length → nth s k 0 ≠ c) : c ∉ s := fun hm => by
 obtain ⟨i, hi, rfl⟩ := List.getElem_of_mem hm; exact h i hi (nth_eq hi)
theorem dqW_len (s : List UInt8) : (dqW s).length = s.length + 2 := by unfold dqW; simp
set_option maxHeartbeats 2000000 in
theorem expandOneField_pure (vars : List Vr) (al outs ps : List (List UInt8)) (vv sv ov pv : Value) (s : List UInt8) (w : World) (hG : EnvI (look w)) (hvv : Sl (look w) 5 vv (vars.map vrC)) (hsv : Sl (look w) 1 sv (al.map svC)) (hov : Sl (look w) 1 ov (outs.map svC)) (hpv : Sl (look w) 1 pv (ps.map svC)) (hsm : smallN vars al outs s ≤ 1000000000) (hvl : vars.length ≤ 10000000) (hvn : ∀ v ∈ vars, v.name.length ≤ 1000000000) (hps : ∀ s ∈ ps, s.length ≤ 100000000) (hpl : ps.length ≤ 1000000000) (hs9 : s.length ≤ 10000000) (hal9 : al.length ≤ 10000000) : Pure Tryz.prog 3 [.agg #[vv, sv, ov, pv], str s] w (.bool true) := by
 refine enter Tryz.func3 rfl Tryz.ntmps3 rfl (St.start w (look w) (Le.refl _)) (tr (le rfl (e_box rfl rfl rfl) ?_)); rintro _ _ _ ⟨b2, rfl, rfl, rfl⟩; refine lrun rfl (t_seq (tr (lq rfl (qc rfl rfl rfl ((fun w hw => awake_pure w (hG.mono hw.le)))) (lrun rfl (t_cond rfl (fun hc0 => ?_) (fun hc0 => ?_))))))
 ·cases hc0
 ·refine tskip (t_seq (tr (lq rfl (q_load_rowA rfl un25 ti25 rfl rfl rfl) (l_run 1 rfl (lq rfl (qc rfl rfl rfl ((fun w hw => small_pure vars al outs vv sv ov pv hpv.one s w (hvv.mono hw.le) (hsv.mono hw.le) (hov.mono hw.le) hsm (by omega)))) ?_))))); refine lrun rfl (t_cond rfl (fun hc1 => ?_) (fun hc1 => ?_))
  ·refine trun rfl (tret (n_ret1 rfl rfl (fun w' hw => ?_))); exact ⟨rfl, hw.below⟩
  ·have hsb : smallB vars al outs s = true := by rw [Bool.not_eq_false'] at hc1; exact hc1
   unfold smallB at hsb; rw [Bool.and_eq_true, decide_eq_true_eq, decide_eq_true_eq] at hsb
   have hsz := hsb.1
   have hsz2 : s.length + valsN vars + (Lib.lens al + al.length) + (Lib.lens outs + outs.length) ≤ 1500 := hsz
   refine tskip (t_seq (trun rfl (t_block (t_loopE (ι := Nat) (fun zz => zz ≤ s.length ∧ ∀ k, k < zz → nth s k 0 ≠ 64 ∧ nth s k 0 ≠ 34) (fun zz => s.length - zz) (fun zz => [(5, .int .i64 (zz : Int))]) [(0, _), (1, _), (2, _), (14, _), (18, _)] (fun zz => look w) (fun zz => [row b2 25 [vv, sv, ov, pv]]) 0 ?_ (sub_rfl rfl) (sub_rfl rfl) (fun _ h => subC_st h) ?_))))
   ·exact ⟨Nat.zero_le _, fun k h => absurd h (Nat.not_lt_zero _)⟩
   rintro i ⟨hi, hno⟩; dsimp only at *; refine t_seq (tr (l_run 2 rfl (lq rfl (q_len_str rfl un9 rfl) (lrun rfl (t_cond rfl (fun hc2 => ?_) (fun hc2 => ?_))))))
   ·simp at hc2
    have hil : i < s.length := by omega
    refine tskip (t_seq (t_block (tq (s_run 2 rfl (sq rfl ((by exact q_index_strN rfl un9 rfl rfl (by omega))) ?_))))); refine sq rfl (q_eql_u8c rfl rfl rfl rfl) (s_run 1 rfl ?_)
    refine s_or2 4 4 29 34 33 _ _ rfl rfl rfl rfl rfl rfl (fun h34 => by
      simp at h34
      refine s_runG 2 rfl (sg rfl ((by exact q_index_strN rfl un9 rfl rfl (by omega))) ?_); refine sg rfl (q_eql_u8c rfl rfl rfl rfl) ?_; exact s_val rfl
     ) (wanted_n rfl) rfl rfl rfl ?_
    refine s_run 1 rfl ?_
    refine s_or2 4 10 35 40 39 _ _ rfl rfl rfl rfl rfl rfl (fun h40 => by
      simp at h40
      refine s_runG 2 rfl (sg rfl ((by exact q_index_strN rfl un9 rfl rfl (by omega))) ?_); refine sg rfl (q_eql_u8c rfl rfl rfl rfl) ?_; exact s_val rfl
     ) (wanted_n rfl) rfl rfl rfl ?_
    refine sdn (t_cond rfl (fun hc3 => ?_) (fun hc3 => ?_))
    ·refine trun rfl (tret (n_ret1 rfl rfl (fun w' hw => ?_))); exact ⟨rfl, hw.below⟩
    ·have hc3a := show _ = false from hc3
     simp only [Bool.or_eq_false_iff, decide_eq_false_iff_not] at hc3a
     have hc3b := hc3a.1
     refine t_skip (n_block (n_then (t_region (l_run 1 rfl (lq rfl (q_add64 rfl rfl rfl (by omega)) ?_))))); refine l_runA rfl (n_roundE (i + 1) ?_ ?_ (sub_rfl rfl) (sub_rfl rfl) (fun _ h => by dsimp only; exact subC_st h))
     ·refine ⟨by omega, fun k hk => ?_⟩; rcases Nat.lt_succ_iff_lt_or_eq.1 hk with h | rfl
      ·exact hno k h
      ·exact hc3b
     ·show s.length - (i + 1) < s.length - i
      omega
   ·simp at hc2
    have hil : i = s.length := by omega
    have h64 : 64 ∉ s := not_mem_nth fun k hk => (hno k (by omega)).1
    have h34 : 34 ∉ s := not_mem_nth fun k hk => (hno k (by omega)).2
    refine t_exit (n_exit_then (n_exit_then (n_exit_block (n_then (tr (l_run 1 rfl (lq rfl (q_cat rfl rfl rfl (by (simp only [List.length_append, List.length_cons, List.length_nil, List.length_take, List.length_drop]; omega))) ?_))))))); refine lq rfl (q_cat rfl rfl rfl (by (simp only [List.length_append, List.length_cons, List.length_nil, List.length_take, List.length_drop]; omega))) ?_; rw [show ([34] ++ s) ++ [34] = dqW s by unfold dqW; rfl]; refine lrun rfl (tr (lq rfl (q_load_rowA rfl un25 ti25 rfl rfl rfl) (lec rfl rfl rfl rfl (fun w hw => setp_calls vars al outs ps vv sv ov pv (by omega) hvn (by omega) hps hpl _ hvv hsv hov hpv _ _ w hw) ?_))); rintro _ J46 _ ⟨hJ46, p, lv, bf, vf, Lf, rfl, hpf, rfl, hi46, hfs46, hml46⟩; refine lq rfl (q_build (pl := [(_, _)]) (cs := (([.pointer (some ⟨p.eb, 0, none⟩)] : List Value)).toArray) rfl un35 ti35 ⟨rfl, ⟨_, _, ti32⟩, trivial⟩ rfl rfl) (le rfl (e_box rfl rfl rfl) ?_); rintro _ _ _ ⟨b48, rfl, rfl, rfl⟩; refine l_heap (H' := hostH { p with hb := b48 } lv nilV ⟨layV vars, argsN al, outs, []⟩ [row b2 25 [vv, sv, ov, pv]]) ?_ (fun _ h => host_start h)
    refine lq rfl (q_makeIface rfl un31 rfl rfl) (l_run 1 rfl (lec rfl rfl rfl rfl (fun w hw => fieldsx_calls { p with hb := b48 } (dqW s) (by rw [dqW_len]; omega) ⟨layV vars, argsN al, outs, []⟩ (expOk_of { p with hb := b48 } (hb_small hsz) (Nat.zero_le _) (dq_okT (by omega))).1 (expOk_of { p with hb := b48 } (hb_small hsz) (Nat.zero_le _) (dq_okT (by omega))).2 noPf noPf_le (pathsAre_no (dq_wild _ h34 h64) noPf) lv nilV J46 [row b2 25 [vv, sv, ov, pv]] _ w (hG.mono hJ46) (hi46.hb b48) hw) ?_)); rintro _ J51 _ ⟨hJ51, lv2, av2, v1, rfl, rfl, hi51, hv51⟩; refine l_heap (H' := [row b2 25 [vv, sv, ov, pv]]) ?_ (fun _ h => subC_st h); refine lrun rfl (tr (lq rfl (q_load_rowA rfl un25 ti25 rfl rfl rfl) (lec rfl rfl rfl rfl (fun w hw => setp_calls vars al outs ps vv sv ov pv (by omega) hvn (by omega) hps hpl _ (hvv.mono (hJ46.trans hJ51)) (hsv.mono (hJ46.trans hJ51)) (hov.mono (hJ46.trans hJ51)) (hpv.mono (hJ46.trans hJ51)) _ _ w hw) ?_))); rintro _ J57 _ ⟨hJ57, p2, lv4, bf2, vf2, Lf2, rfl, hpf2, rfl, hi57, hfs57, hml57⟩; refine lq rfl (q_build (pl := [(_, _)]) (cs := (([.pointer (some ⟨p2.eb, 0, none⟩)] : List Value)).toArray) rfl un35 ti35 ⟨rfl, ⟨_, _, ti32⟩, trivial⟩ rfl rfl) (le rfl (e_box rfl rfl rfl) ?_); rintro _ _ _ ⟨b59, rfl, rfl, rfl⟩; refine l_heap (H' := hostH { p2 with hb := b59 } lv4 nilV ⟨layV vars, argsN al, outs, []⟩ [row b2 25 [vv, sv, ov, pv]]) ?_ (fun _ h => host_start h)
    refine lq rfl (q_makeIface rfl un31 rfl rfl) (l_run 1 rfl (lec rfl rfl rfl rfl (fun w hw => onex_calls { p2 with hb := b59 } (dqW s) 0 (by rw [dqW_len]; omega) ⟨layV vars, argsN al, outs, []⟩ (expOk_of { p2 with hb := b59 } (hb_small hsz) (Nat.zero_le _) (dq_okT (by omega))).1 (expOk_of { p2 with hb := b59 } (hb_small hsz) (Nat.zero_le _) (dq_okT (by omega))).2 lv4 nilV J57 [row b2 25 [vv, sv, ov, pv]] _ w (hG.mono ((hJ46.trans hJ51).trans hJ57)) (hi57.hb b59) hw) ?_)); rintro _ J62 _ ⟨hJ62, rfl, lv5, av5, rfl, hi62⟩; refine l_heap (H' := [row b2 25 [vv, sv, ov, pv]]) ?_ (fun _ h => subC_st h)
    have hlaw := oneField_law noPf ⟨layV vars, argsN al, outs, []⟩ h34 h64
    refine lrun rfl (t_seq (trun rfl (t_cond rfl (fun hc4 => ?_) (fun hc4 => ?_))))
    ·have hne : (fldsX noPf ⟨layV vars, argsN al, outs, []⟩ (dqW s)).2.2.1 ≠ (oneX ⟨layV vars, argsN al, outs, []⟩ (dqW s) 0).2.2.1 := fun h9 => by rw [h9] at hc4; simp at hc4
     rw [if_pos hne] at hlaw; refine tq (s_run 3 rfl ?_)
     refine s_and2 3 2 71 75 74 _ _ rfl rfl rfl rfl rfl rfl (fun h75 => by
       simp at h75
       refine s_runG 1 rfl (sg rfl (q_len_str rfl un9 rfl) (s_runG 1 rfl ?_)); exact s_val rfl
      ) (wanted_n rfl) rfl rfl rfl ?_
     refine s_run 1 rfl (sdn (tret (n_ret1 rfl rfl (fun w' hw => ?_)))); refine ⟨?_, (hw.less (((hJ46.trans hJ51).trans hJ57).trans hJ62)).below⟩; refine congrArg (fun b => Ending.returned (.bool b)) ?_; rw [Bool.and_eq_true, decide_eq_true_eq, decide_eq_true_eq]
     omega
    ·have hne : (fldsX noPf ⟨layV vars, argsN al, outs, []⟩ (dqW s)).2.2.1 = (oneX ⟨layV vars, argsN al, outs, []⟩ (dqW s) 0).2.2.1 := by have h9 := of_decide_eq_false hc4; omega
     rw [if_neg (by rw [hne]; simp)] at hlaw
     have hv := hv51.mono (hJ57.trans hJ62)
     refine tskip (tq (s_run 3 rfl ?_))
     refine s_or2 10 2 78 89 88 _ _ rfl rfl rfl rfl rfl rfl (fun h89 => by
       simp at h89
       refine s_runG 1 rfl ?_; refine sg rfl ((by exact q_len rfl un23 rfl (Sl.lenOf hv (List.length_map _)))) ?_; refine s_runG 2 rfl ?_
       refine s_and2 5 6 82 88 87 _ _ rfl rfl rfl rfl rfl rfl (fun h88 => by
         simp at h88
         have hl1 : (fldsX noPf ⟨layV vars, argsN al, outs, []⟩ (dqW s)).1.length = 1 := by first | exact h88 | omega
         refine s_runG 1 rfl ?_; refine sg rfl ((by exact q_indexAddr rfl un23 ti9 rfl rfl (Sl.shape (n := 1) hv (by rw [List.length_map, hl1])) (by omega))) ?_; refine sg rfl ((by exact q_ldr rfl rfl (rd_sv (i := 0) hv (by omega)))) ?_; refine s_runG 1 rfl (sg rfl (q_eql_str rfl rfl rfl) ?_); exact s_val rfl
        ) (wanted_g rfl rfl rfl rfl) rfl rfl rfl ?_
       exact s_val rfl
      ) (wanted_n rfl) rfl rfl rfl ?_
     refine s_run 1 rfl (sdn (t_ret (n_ret1 rfl rfl (fun w' hw => ?_)))); refine ⟨?_, (hw.less (((hJ46.trans hJ51).trans hJ57).trans hJ62)).below⟩; refine congrArg (fun b => Ending.returned (.bool b)) ?_; rcases hlaw with h9 | h9
     ·rw [decide_eq_true (show (((fldsX noPf ⟨layV vars, argsN al, outs, []⟩ (dqW s)).2.2.1 : Nat) : Int) ≠ 0 by omega)]; rfl
     ·rw [h9]; simp [nth]
end Go.Tri
