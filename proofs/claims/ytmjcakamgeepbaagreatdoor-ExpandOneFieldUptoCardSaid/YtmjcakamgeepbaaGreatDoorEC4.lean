/-
 A list of variables: what stands there.
-/
import Derived.Test.YtmjcakamgeepbaaGreatDoorEB8
import Derived.Test.YtmjcakamgeepbaaGreatDoorPExV
import Derived.Test.YtmjcakamgeepbaaGreatDoorTriZ
import Derived.Test.YtmjcakamgeepbaaGreatDoorPNum
import Derived.Lib.SmallJoins
namespace Go.Tri
open Go.Proofs Go.RowKit
set_option maxRecDepth 10000
theorem vrC_ones (x : Vr) : ∀ u ∈ vrC x, u.oneCell' = true := fun u hu => by
 simp only [vrC, List.mem_cons, List.not_mem_nil, or_false] at hu
 rcases hu with rfl | rfl | rfl | rfl | rfl <;> rfl
theorem one_nilV : One nilV := ⟨rfl, rfl⟩
theorem Rowed.mono {w w' : World} {b : Nat} {cs : List Value} (h : Rowed w b cs) (hle : Le (look w) (look w')) : Rowed w' b cs := fun k u hk => (h k u hk).mono hle
theorem find_pure (b : Nat) (l : List Vr) (lv av : Value) (w : World) (hn : l.length ≤ 1000) (hb : Rowed w b [lv, av]) (hl : Sl (look w) 5 lv (l.map vrC)) (n : List UInt8) : Pure Tryz.prog 33 [.pointer (some ⟨b, 0, none⟩), str n] w (.int .i64 (findR l n)) := by
 refine enter Tryz.func33 rfl Tryz.ntmps33 rfl (St.start w (look w) (Le.refl _)) (trun rfl (t_seq (trun rfl (t_block (t_loopE (ι := Nat) (fun zz => zz ≤ l.length ∧ ∀ k, k < zz → (nth l k vr0).name ≠ n) (fun zz => l.length - zz) (fun zz => [(5, .int .i64 (zz : Int))]) [(0, _), (1, _)] (fun zz => look w) (fun zz => []) 0 ?_ (sub_rfl rfl) (sub_rfl rfl) (fun _ h => subC_st h) ?_)))))
 ·exact ⟨Nat.zero_le _, fun k h => absurd h (Nat.not_lt_zero _)⟩
 rintro i ⟨hi, hno⟩; dsimp only at *; refine t_seq (tr (l_run 4 rfl (lq rfl ((by exact q_ldr rfl rfl (rd_imm (hb 0 _ rfl)))) ?_))); refine lq rfl ((by exact q_len rfl un22 rfl (Sl.lenOf hl (List.length_map _)))) ?_; refine lrun rfl (t_cond rfl (fun hc0 => ?_) (fun hc0 => ?_))
 ·simp at hc0
  have hil : i < l.length := by omega
  refine tskip (t_seq (t_block (tr (l_run 3 rfl (lq rfl ((by exact q_ldr rfl rfl (rd_imm (hb 0 _ rfl)))) ?_))))); refine l_run 1 rfl ?_; refine lq rfl ((by exact q_indexAddrN rfl un22 ti39 rfl rfl (Sl.shape hl (List.length_map _)) (by omega))) ?_; refine l_run 1 rfl (lq rfl ((by exact q_ldr rfl rfl (rd_vrf (i := i) (j := 0) hl (by omega) rfl))) ?_); refine l_run 1 rfl (lq rfl (q_eql_str rfl rfl rfl) (ln (t_cond rfl (fun hc1 => ?_) (fun hc1 => ?_))))
  ·simp only [decide_eq_true_eq, decide_eq_false_iff_not] at hc1
   have h := findR_some hil hc1 hno
   refine trun rfl (tret (n_ret1 rfl rfl (fun w' hw => ?_))); refine ⟨?_, hw.below⟩; rw [h]
  ·simp only [decide_eq_true_eq, decide_eq_false_iff_not] at hc1
   have hc1 : (nth l i vr0).name ≠ n := hc1
   refine t_skip (n_block (n_then (t_region (l_run 1 rfl (lq rfl (q_add64 rfl rfl rfl (by omega)) ?_))))); refine l_runA rfl (n_roundE (i + 1) ?_ ?_ (sub_rfl rfl) (sub_rfl rfl) (fun _ h => by dsimp only; exact subC_st h))
   ·refine ⟨by omega, fun k hk => ?_⟩; rcases Nat.lt_succ_iff_lt_or_eq.1 hk with h | rfl
    ·exact hno k h
    ·exact hc1
   ·show l.length - (i + 1) < l.length - i
    omega
 ·simp at hc0
  have h := findR_none (n := n) (l := l) (fun k hk => hno k (by omega))
  refine t_exit (n_exit_then (n_exit_then (n_exit_block (n_then (trun rfl (t_ret (n_ret1 rfl rfl (fun w' hw => ?_)))))))); refine ⟨?_, hw.below⟩; rw [h]
theorem at_pure (b : Nat) (l : List Vr) (lv av : Value) (w : World) (hn : l.length ≤ 1000) (hb : Rowed w b [lv, av]) (hl : Sl (look w) 5 lv (l.map vrC)) (n : List UInt8) : Pure Tryz.prog 31 [.pointer (some ⟨b, 0, none⟩), str n] w (.agg (vrC (atN l n)).toArray) := by
 refine enter Tryz.func31 rfl Tryz.ntmps31 rfl (St.start w (look w) (Le.refl _)) (tr (le rfl (e_alloc rfl ti39 rfl) ?_)); rintro _ _ _ ⟨b4, rfl, rfl, rfl⟩; refine lnr (l_run 2 rfl (lq rfl (qc rfl rfl rfl ((fun w hw => find_pure b l lv av w hn (hb.mono hw.le) (hl.mono hw.le) n))) (lrun rfl (trun rfl (t_cond rfl (fun hc0 => ?_) (fun hc0 => ?_))))))
 ·simp at hc0
  obtain ⟨hrl, hx⟩ := findR_at (n := n) (l := l) (by omega); refine tr (l_run 3 rfl (lq rfl ((by exact q_ldr rfl rfl (rd_imm (hb 0 _ rfl)))) ?_)); refine l_run 1 rfl ?_; refine lq rfl ((by exact q_indexAddr rfl un22 ti39 rfl rfl (Sl.shape hl (List.length_map _)) (by omega))) ?_; refine lq rfl ((by exact q_load_agg rfl un39 ti39 rfl rfl (rds_vr (i := (findR l n).toNat) hl (by omega)))) ?_; refine l_e0 rfl rfl ((by exact e_store_all rfl ti39 rfl rfl rfl (by exact vrC_ones _) rfl)) ?_; rintro _ _ _ ⟨rfl, rfl⟩; refine ln (t_ret (n_ret_then (n_retGG (.inl rfl) rfl (by exact rg_row rfl un39 ti39 rfl rfl (rg_nil)) (fun w' hw => ?_)))); refine ⟨?_, hw.below⟩
  rw [hx]; rfl
 ·simp at hc0
  have hx := atN_neg (n := n) (l := l) (by omega)
  refine tskip (tr (l_run 1 rfl (lq rfl (q_build (pl := [(_, _), (_, _), (_, _), (_, _), (_, _)]) (cs := #[_, _, _, _, _]) rfl un39 ti39 ⟨rfl, ⟨_, _, ti9⟩, rfl, ⟨_, _, ti9⟩, rfl, ⟨_, _, ti4⟩, rfl, ⟨_, _, ti4⟩, rfl, ⟨_, _, ti4⟩, trivial⟩ rfl rfl) (l_e0 rfl rfl ((by exact e_store_all rfl ti39 rfl rfl rfl (by exact vrC_ones ⟨n, [], false, false, true⟩) rfl)) ?_)))); rintro _ _ _ ⟨rfl, rfl⟩; refine ln (t_ret (n_retGG (.inl rfl) rfl (by exact rg_row rfl un39 ti39 rfl rfl (rg_nil)) (fun w' hw => ?_))); refine ⟨?_, hw.below⟩
  rw [hx]; rfl
theorem get_pure (b : Nat) (l : List Vr) (lv av : Value) (w : World) (hn : l.length ≤ 1000) (hb : Rowed w b [lv, av]) (hl : Sl (look w) 5 lv (l.map vrC)) (n : List UInt8) : Pure Tryz.prog 201 [.pointer (some ⟨b, 0, none⟩), str n] w (.tuple #[str (atN l n).value, .bool (!(atN l n).u)]) := by
 refine enter Tryz.func201 rfl Tryz.ntmps201 rfl (St.start w (look w) (Le.refl _)) (trun rfl (tr (l_run 2 rfl (lq rfl (qc rfl rfl rfl ((fun w hw => at_pure b l lv av w hn (hb.mono hw.le) (hl.mono hw.le) n))) (le rfl (e_alloc rfl ti39 rfl) ?_))))); rintro _ _ _ ⟨b6, rfl, rfl, rfl⟩; refine l_e0 rfl rfl ((by exact e_store_all rfl ti39 rfl rfl rfl (by exact vrC_ones _) rfl)) ?_; rintro _ _ _ ⟨rfl, rfl⟩; refine lnt (t_qdraw mo (by kernel_rfl) (fun _ _ _ _ _ h => h) (s_run 1 rfl (sq rfl (q_ld rfl rfl (by rfl)) ?_))); refine s_run 1 rfl (sq rfl (q_ld rfl rfl (by rfl)) ?_); refine s_run 3 rfl (sdn (t_ret (n_ret2 rfl rfl rfl (fun w' hw => ?_)))); refine ⟨?_, hw.below⟩
 rfl
end Go.Tri

/-
 A list of variables: one is put.
-/
namespace Go.Tri
open Go.Proofs Go.RowKit
set_option maxRecDepth 10000
theorem okNr (s : List UInt8) (i : Nat) : (!letterB (nth s i 0) && (decide ((i : Int) = 0) || !digitB' (nth s i 0))) = !okN s i := by
 unfold okN
 by_cases h1 : (i : Int) = 0 <;> cases letterB (nth s i 0) <;> cases digitB' (nth s i 0) <;> simp [h1] <;> omega
def svC (s : List UInt8) : List Value := [str s]
theorem svC_ones (s : List UInt8) : ∀ u ∈ svC s, u.oneCell' = true := fun u hu => by
 rw [svC, List.mem_singleton] at hu; subst hu; rfl
theorem cut0 {I : Look} {v : Value} {l : List Vr} {i : Nat} (h : Sl I 5 v (l.map vrC)) (hi : i ≤ l.length) : Sl I 5 (cutV 5 0 i v) ((l.take i).map vrC) := by
 have := Sl.cutM h (Nat.zero_le i) hi
 rwa [List.drop_zero, Nat.sub_zero] at this
theorem rletter_pure (c : UInt8) (w : World) : Pure Tryz.prog 43 [u8 c] w (.bool (letterB c)) := by
 refine enter Tryz.func43 rfl Tryz.ntmps43 rfl (St.start w (look w) (Le.refl _)) (trun rfl (tq (s_run 3 rfl ?_)))
 refine s_and2 2 2 5 8 7 _ _ rfl rfl rfl rfl rfl rfl (fun h8 => by
   simp at h8
   refine s_runG 2 rfl ?_; exact s_val rfl
  ) (wanted_n rfl) rfl rfl rfl ?_
 refine s_run 1 rfl ?_
 refine s_or2 6 6 9 16 15 _ _ rfl rfl rfl rfl rfl rfl (fun h16 => by
   simp at h16
   refine s_runG 3 rfl ?_
   refine s_and2 2 9 12 15 14 _ _ rfl rfl rfl rfl rfl rfl (fun h15 => by
     simp at h15
     refine s_runG 2 rfl ?_; exact s_val rfl
    ) (wanted_g rfl rfl rfl rfl) rfl rfl rfl ?_
   exact s_val rfl
  ) (wanted_n rfl) rfl rfl rfl ?_
 refine s_run 1 rfl ?_
 refine s_or2 2 14 17 20 19 _ _ rfl rfl rfl rfl rfl rfl (fun h20 => by
   simp at h20
   refine s_runG 1 rfl (sg rfl (q_eql_u8c rfl rfl rfl rfl) ?_); exact s_val rfl
  ) (wanted_n rfl) rfl rfl rfl ?_
 refine s_run 1 rfl (sdn (t_ret (n_ret1 rfl rfl (fun w' hw => ?_)))); refine ⟨?_, hw.below⟩
 rfl
theorem rdigit_pure (c : UInt8) (w : World) : Pure Tryz.prog 44 [u8 c] w (.bool (digitB' c)) := by
 refine enter Tryz.func44 rfl Tryz.ntmps44 rfl (St.start w (look w) (Le.refl _)) (trun rfl (tq (s_run 3 rfl ?_)))
 refine s_and2 2 2 5 8 7 _ _ rfl rfl rfl rfl rfl rfl (fun h8 => by
   simp at h8
   refine s_runG 2 rfl ?_; exact s_val rfl
  ) (wanted_n rfl) rfl rfl rfl ?_
 refine s_run 1 rfl (sdn (t_ret (n_ret1 rfl rfl (fun w' hw => ?_)))); refine ⟨?_, hw.below⟩
 rfl
theorem rname_pure (s : List UInt8) (w : World) (hs : s.length ≤ 4611686018427387904) : Pure Tryz.prog 32 [str s] w (.bool (nameB s)) := by
 refine enter Tryz.func32 rfl Tryz.ntmps32 rfl (St.start w (look w) (Le.refl _)) (trun rfl (t_seq (trun rfl (t_block (t_loopE (ι := Nat) (fun i => i ≤ s.length ∧ ∀ k, k < i → okN s k = true) (fun i => s.length - i) (fun i => [(3, .int .i64 (i : Int))]) [(0, _)] (fun i => look w) (fun i => []) 0 ?_ (sub_rfl rfl) (sub_rfl rfl) (fun _ h => subC_st h) ?_)))))
 ·exact ⟨Nat.zero_le _, fun k hk => absurd hk (Nat.not_lt_zero _)⟩
 rintro i ⟨hi, hok⟩; refine t_seq (tr (l_run 2 rfl (lq rfl (q_len_str rfl un9 rfl) (lrun rfl (t_cond rfl (fun hc0 => ?_) (fun hc0 => ?_))))))
 ·simp at hc0
  refine tskip (t_seq (t_block (tq (s_run 2 rfl (sq rfl ((by exact q_index_strN rfl un9 rfl rfl (by omega))) ?_))))); refine sq rfl (qc rfl rfl rfl ((fun w _ => rletter_pure _ w))) (s_run 2 rfl ?_)
  refine s_and2 9 5 15 25 24 _ _ rfl rfl rfl rfl rfl rfl (fun h25 => by
    simp at h25
    refine s_runG 3 rfl ?_
    refine s_or2 5 8 18 24 23 _ _ rfl rfl rfl rfl rfl rfl (fun h24 => by
      simp at h24
      refine s_runG 2 rfl (sg rfl ((by exact q_index_strN rfl un9 rfl rfl (by omega))) ?_); refine sg rfl (qc rfl rfl rfl ((fun w _ => rdigit_pure _ w))) (s_runG 1 rfl ?_); exact s_val rfl
     ) (wanted_g rfl rfl rfl rfl) rfl rfl rfl ?_
    exact s_val rfl
   ) (wanted_n rfl) rfl rfl rfl ?_
  refine sdn (t_cond rfl (fun hc1 => ?_) (fun hc1 => ?_))
  ·have hokk : okN s i = false := by have := okNr s i; rw [show _ = true from hc1] at this; simpa using this
   refine trun rfl (tret (n_ret1 rfl rfl (fun w' hw => ?_))); refine ⟨?_, hw.below⟩; rw [nameB_false (by omega) hokk]
  ·have hokk : okN s i = true := by have := okNr s i; rw [show _ = false from hc1] at this; simpa using this
   refine t_skip (n_block (n_then (t_region (l_run 1 rfl (lq rfl (q_add64 rfl rfl rfl (by omega)) ?_))))); refine l_runA rfl (n_roundE (i + 1) ?_ ?_ (sub_rfl rfl) (sub_rfl rfl) (fun _ h => by dsimp only; exact subC_st h))
   ·refine ⟨by omega, fun k hk => ?_⟩; rcases Nat.lt_succ_iff_lt_or_eq.1 hk with h | rfl
    ·exact hok k h
    ·exact hokk
   ·omega
 ·simp at hc0
  refine t_exit (n_exit_then (n_exit_then (n_exit_block (n_then (tr (l_run 1 rfl (lq rfl (q_neq_str rfl rfl rfl) (lrun rfl (t_ret ?_))))))))); refine n_ret1 rfl rfl (fun w' hw => ?_); refine ⟨?_, hw.below⟩; rw [nameB_all fun k hk => hok k (by omega)]
theorem put_calls (b : Nat) (l : List Vr) (x : Vr) (lv av : Value) (hav : One av) (hl : l.length ≤ 64) (I : Look) (hlv : Sl I 5 lv (l.map vrC)) (F : List HA) (w0 w : World) (hw0 : St w0 I (row b 61 [lv, av] :: F) w) : Calls Tryz.prog 34 [.pointer (some ⟨b, 0, none⟩), .agg (vrC x).toArray].toArray w (fun e w' => ∃ v, e = .returned v ∧ ∃ I' H', (Le I I' ∧ v = .tuple #[] ∧ ∃ lv', H' = row b 61 [lv', av] :: F ∧ Sl I' 5 lv' ((putN l x).map vrC)) ∧ St w I' H' w') := by
 refine enter Tryz.func34 rfl Tryz.ntmps34 rfl (hw0.self) (tr (le rfl (e_box rfl rfl rfl) ?_)); rintro _ _ _ ⟨b3, rfl, rfl, rfl⟩; refine lnr (l_run 2 rfl (lq rfl ((by exact q_ld rfl rfl (by rfl))) ?_)); refine lq rfl (qc rfl rfl rfl ((fun w hw => find_pure b l lv av w (by omega) (rowed_of hw) (hlv.mono hw.le) x.name))) ?_; refine lrun rfl (trun rfl (t_cond rfl (fun hc0 => ?_) (fun hc0 => ?_)))
 ·simp at hc0
  obtain ⟨hrl, hx⟩ := findR_at (n := x.name) (l := l) (by omega)
  have hpt := putN_at (x := x) (l := l) (by omega)
  refine tr (le rfl (e_buildSlice0 rfl un22 ti39) ?_); rintro v13 _ _ ⟨⟨b13, hb13⟩, rfl, rfl⟩; refine l_run 3 rfl (lq rfl ((by exact q_ld rfl rfl (by rfl))) ?_); refine le rfl (e_appendSl (f := vrC) (l := []) (ls := l) rfl un22 ti39 rfl rfl rfl rfl (hlv) rfl (fun _ => rfl) vrC_ones (by (try simp only [maxLen, List.length_nil]); omega) (by (try simp only [List.length_nil]); omega)) ?_; rintro v18 _ _ ⟨rfl, rfl⟩; refine l_heap (H' := tvec 39 5 vrC v18 l :: _) ?_ (fun _ h => h); refine l_len v18 (fun hsh18 hone18 => ?_); refine lrun rfl (tr (l_run 2 rfl (lq rfl (q_load_rowA rfl un39 ti39 rfl rfl rfl) ?_))); refine lq rfl ((by exact q_indexAddrV rfl un22 ti39 rfl rfl (by omega))) ?_; refine l_e0 rfl rfl (e_storeSA (x) rfl ti39 rfl rfl (vrC_ones x) (fun _ => rfl) hrl (by decide)) ?_; rintro _ _ _ ⟨rfl, rfl⟩; refine l_heap (H' := tvec 39 5 vrC v18 (l.set (findR l x.name).toNat x) :: _) ?_ (fun _ h => h); refine lnr1 (l_run 4 rfl ?_); refine l_e0 rfl rfl (e_storeS rfl ti22 rfl rfl (by assumption) rfl (by rfl)) ?_; rintro _ _ _ ⟨rfl, rfl⟩; refine l_heap (H' := row b 61 [v18, av] :: _) ?_ (fun _ h => h); refine ln (tret (n_ret0 rfl (fun w' hw => ?_))); obtain ⟨J, hJ, hw2, hsl⟩ := st_freezeT (f := vrC) (picks_st2 (tvec 39 5 vrC v18 (l.set (findR l x.name).toNat x)) (row b 61 [v18, av]) hw) (fun _ => rfl); exact ⟨_, rfl, J, _, ⟨hJ, rfl, v18, rfl, by rw [hpt]; exact hsl⟩, subC_st hw2⟩
 ·simp at hc0
  have hfn := findN_neg (n := x.name) (l := l) (by omega)
  refine tskip (trun rfl (t_seq (t_block (t_loopE (ι := Nat) (fun zz => zz ≤ l.length ∧ ∀ k, k < zz → Op.bytesLess (nth l k vr0).name x.name = true) (fun zz => l.length - zz) (fun zz => [(6, .int .i64 (zz : Int))]) [(0, _), (1, _), (3, _), (4, _), (12, _)] (fun zz => I) (fun zz => (row b3 39 (vrC x) :: row b 61 [lv, av] :: F)) 0 ?_ (sub_rfl rfl) (sub_rfl rfl) (fun _ h => subC_st h) ?_))))
  ·exact ⟨Nat.zero_le _, fun k h => absurd h (Nat.not_lt_zero _)⟩
  rintro i ⟨hi, hlt⟩; dsimp only at *; refine t_seq (t_seq (t_qdraw mo (by kernel_rfl) (fun _ _ _ _ _ h => h) (s_run 4 rfl (sq rfl ((by exact q_ld rfl rfl (by rfl))) ?_)))); refine sq rfl ((by exact q_len rfl un22 rfl (Sl.lenOf hlv (List.length_map _)))) ?_; refine s_run 2 rfl ?_
  refine s_and2 11 7 34 46 45 _ _ rfl rfl rfl rfl rfl rfl (fun h46 => by
    simp at h46
    have hil : i < l.length := by omega
    refine s_runG 3 rfl (sg rfl ((by exact q_ld rfl rfl (by rfl))) ?_); refine s_runG 1 rfl ?_; refine sg rfl ((by exact q_indexAddrN rfl un22 ti39 rfl rfl (Sl.shape hlv (List.length_map _)) (by omega))) ?_; refine s_runG 1 rfl (sg rfl ((by exact q_ldr rfl rfl (rd_vrf (i := i) (j := 0) hlv (by omega) rfl))) ?_); refine s_runG 1 rfl (sg rfl ((by exact q_ld rfl rfl (by rfl))) ?_); refine sg rfl (q_lss_str rfl rfl rfl) ?_; exact s_val rfl
   ) (wanted_n rfl) rfl rfl rfl ?_
  refine sdn (t_cond rfl (fun hc1 => ?_) (fun hc1 => ?_))
  ·rw [Bool.and_eq_true] at hc1
   have hil : i < l.length := by have := of_decide_eq_true hc1.1; omega
   have hbl := hc1.2
   refine tskip (t_block (t_region (l_run 1 rfl (lq rfl (q_add64 rfl rfl rfl (by omega)) ?_)))); refine l_runA rfl (n_block (n_roundE (i + 1) ?_ ?_ (sub_rfl rfl) (sub_rfl rfl) (fun _ h => by dsimp only; exact subC_st h)))
   ·refine ⟨by omega, fun k hk => ?_⟩; rcases Nat.lt_succ_iff_lt_or_eq.1 hk with h | rfl
    ·exact hlt k h
    ·exact hbl
   ·show l.length - (i + 1) < l.length - i
    omega
  ·have hlow : lowN l x.name = i := lowN_at hi hlt (fun hil => by have h9 := hc1; rw [decide_eq_true (show (i : Int) < (l.length : Int) by omega), Bool.true_and] at h9; exact h9)
   have hpt := putN_none hfn
   rw [hlow] at hpt; refine t_exit (n_exit_then (n_exit_then (n_exit_block (n_then (t_draw [1, 8, 10, 11, 18, 21] [21] [row b 61 [lv, av], row b3 39 (vrC x)] mo (by kernel_rfl) (fun _ _ _ _ _ h => h) (r_run [0, 2, 3, 4] (by kernel_rfl) rfl rfl rfl (rq0 5 (by kernel_rfl) rfl (Le.refl _) rfl (fun _ hI => (by exact q_ld rfl rfl (by rfl))) ?_))))))); refine r_run [6] (by kernel_rfl) rfl rfl rfl (rqf 7 (by kernel_rfl) rfl rfl (fun _ => (by exact q_slice_to rfl un22 ti39 rfl rfl (Sl.capOf hlv (List.length_map _)) (by omega))) ?_); refine rq0 9 (by kernel_rfl) rfl (Le.refl _) rfl (fun _ hI => q_load_rowA rfl un39 ti39 rfl rfl rfl) (r_run [12, 13, 14] (by kernel_rfl) rfl rfl rfl (rq0 15 (by kernel_rfl) rfl (Le.refl _) rfl (fun _ hI => (by exact q_ld rfl rfl (by rfl))) ?_)); refine r_run [16] (by kernel_rfl) rfl rfl rfl (rqf 17 (by kernel_rfl) rfl rfl (fun _ => (by exact q_slice_from rfl un22 ti39 rfl rfl (Sl.lenOf hlv (List.length_map _)) (by omega))) ?_); refine r_two 1 10 (by kernel_rfl) (by kernel_rfl) ?_ ?_
   ·refine x_e 1 rfl rfl (Le.refl _) rfl rfl rfl (e_buildSlice0 rfl un22 ti39) ?_; rintro v50 _ _ ⟨⟨b50, hb50⟩, rfl, rfl⟩; refine ⟨Le.refl _, .inr SubC.sub, ?_⟩; refine r_two 8 10 (by kernel_rfl) (by kernel_rfl) ?_ ?_
    ·refine x_e 8 rfl rfl (Le.refl _) rfl rfl rfl (e_appendSl (f := vrC) (l := []) (ls := l.take i) rfl un22 ti39 rfl rfl rfl rfl (cut0 hlv hi) rfl (fun _ => rfl) vrC_ones (by (try simp only [maxLen, List.length_nil, List.length_take]); omega) (by (try simp only [List.length_nil, List.length_take]); omega)) ?_; rintro v57 _ _ ⟨rfl, rfl⟩; refine ⟨Le.refl _, .inr SubC.sub, ?_⟩; refine re 10 (by kernel_rfl) rfl (Le.refl _) rfl (e_buildSlice1 rfl un22 ti39 rfl rfl rfl (by rfl) rfl) ?_; rintro _ _ _ ⟨b59, rfl, rfl, rfl⟩; refine ⟨Le.refl _, .inr SubC.sub, ?_⟩; refine re 11 (by kernel_rfl) rfl (Le.refl _) rfl (e_appendT (f := vrC) (l := l.take i) (c := x) rfl un22 ti39 rfl rfl rfl rfl rfl rfl rfl (vrC_ones x) (by (try simp only [maxLen, List.length_take]); omega) (by (try simp only [List.length_take]); omega)) ?_; rintro v60 _ _ ⟨rfl, rfl⟩; refine ⟨Le.refl _, .inr SubC.sub, ?_⟩; refine re 18 (by kernel_rfl) rfl (Le.refl _) rfl (e_appendSl (f := vrC) (l := l.take i ++ [x]) (ls := l.drop i) rfl un22 ti39 rfl rfl rfl rfl (Sl.dropM hlv rfl hi) rfl (fun _ => rfl) vrC_ones (by (try simp only [maxLen, List.length_append, List.length_take, List.length_drop, List.length_cons, List.length_nil]); omega) (by (try simp only [List.length_append, List.length_take, List.length_drop, List.length_cons, List.length_nil]); omega)) ?_; rintro v67 _ _ ⟨rfl, rfl⟩; refine ⟨Le.refl _, .inr SubC.sub, ?_⟩; refine r_len v67 (fun hsh67 hone18 => ?_); refine r_run [19, 20] (by kernel_rfl) rfl rfl rfl ?_
     refine r_e0 21 (by kernel_rfl) (by kernel_rfl) rfl (Le.refl _) rfl rfl (e_storeS rfl ti22 rfl rfl (by assumption) rfl (by rfl)) ?_; rintro _ _ _ ⟨rfl, rfl⟩; refine ⟨Le.refl _, .inl rfl, ?_⟩; refine r_heap (H' := row b 61 [v67, av] :: _) ?_ (fun _ h => h); refine r_end (by kernel_rfl) (n_end0 rfl (fun w' hw => ?_)); obtain ⟨J, hJ, hw2, hsl⟩ := st_freezeT (f := vrC) (picks_st2 (tvec 39 5 vrC v67 (l.take i ++ [x] ++ l.drop i)) (row b 61 [v67, av]) hw) (fun _ => rfl); exact ⟨_, rfl, J, _, ⟨hJ, rfl, v67, rfl, by rw [hpt]; exact hsl⟩, subC_st hw2⟩
    ·refine x_e 10 rfl rfl (Le.refl _) rfl rfl rfl (e_buildSlice1 rfl un22 ti39 rfl rfl rfl (by rfl) rfl) ?_; rintro _ _ _ ⟨b59, rfl, rfl, rfl⟩; refine ⟨Le.refl _, .inr SubC.sub, ?_⟩; refine re 8 (by kernel_rfl) rfl (Le.refl _) rfl (e_appendSl (f := vrC) (l := []) (ls := l.take i) rfl un22 ti39 rfl rfl rfl rfl (cut0 hlv hi) rfl (fun _ => rfl) vrC_ones (by (try simp only [maxLen, List.length_nil, List.length_take]); omega) (by (try simp only [List.length_nil, List.length_take]); omega)) ?_; rintro v57 _ _ ⟨rfl, rfl⟩; refine ⟨Le.refl _, .inr SubC.sub, ?_⟩; refine re 11 (by kernel_rfl) rfl (Le.refl _) rfl (e_appendT (f := vrC) (l := l.take i) (c := x) rfl un22 ti39 rfl rfl rfl rfl rfl rfl rfl (vrC_ones x) (by (try simp only [maxLen, List.length_take]); omega) (by (try simp only [List.length_take]); omega)) ?_; rintro v60 _ _ ⟨rfl, rfl⟩; refine ⟨Le.refl _, .inr SubC.sub, ?_⟩; refine re 18 (by kernel_rfl) rfl (Le.refl _) rfl (e_appendSl (f := vrC) (l := l.take i ++ [x]) (ls := l.drop i) rfl un22 ti39 rfl rfl rfl rfl (Sl.dropM hlv rfl hi) rfl (fun _ => rfl) vrC_ones (by (try simp only [maxLen, List.length_append, List.length_take, List.length_drop, List.length_cons, List.length_nil]); omega) (by (try simp only [List.length_append, List.length_take, List.length_drop, List.length_cons, List.length_nil]); omega)) ?_; rintro v67 _ _ ⟨rfl, rfl⟩; refine ⟨Le.refl _, .inr SubC.sub, ?_⟩; refine r_len v67 (fun hsh67 hone18 => ?_); refine r_run [19, 20] (by kernel_rfl) rfl rfl rfl ?_
     refine r_e0 21 (by kernel_rfl) (by kernel_rfl) rfl (Le.refl _) rfl rfl (e_storeS rfl ti22 rfl rfl (by assumption) rfl (by rfl)) ?_; rintro _ _ _ ⟨rfl, rfl⟩; refine ⟨Le.refl _, .inl rfl, ?_⟩; refine r_heap (H' := row b 61 [v67, av] :: _) ?_ (fun _ h => h); refine r_end (by kernel_rfl) (n_end0 rfl (fun w' hw => ?_)); obtain ⟨J, hJ, hw2, hsl⟩ := st_freezeT (f := vrC) (picks_st2 (tvec 39 5 vrC v67 (l.take i ++ [x] ++ l.drop i)) (row b 61 [v67, av]) hw) (fun _ => rfl); exact ⟨_, rfl, J, _, ⟨hJ, rfl, v67, rfl, by rw [hpt]; exact hsl⟩, subC_st hw2⟩
   ·refine x_e 10 rfl rfl (Le.refl _) rfl rfl rfl (e_buildSlice1 rfl un22 ti39 rfl rfl rfl (by rfl) rfl) ?_; rintro _ _ _ ⟨b59, rfl, rfl, rfl⟩; refine ⟨Le.refl _, .inr SubC.sub, ?_⟩; refine re 1 (by kernel_rfl) rfl (Le.refl _) rfl (e_buildSlice0 rfl un22 ti39) ?_; rintro v50 _ _ ⟨⟨b50, hb50⟩, rfl, rfl⟩; refine ⟨Le.refl _, .inr SubC.sub, ?_⟩; refine re 8 (by kernel_rfl) rfl (Le.refl _) rfl (e_appendSl (f := vrC) (l := []) (ls := l.take i) rfl un22 ti39 rfl rfl rfl rfl (cut0 hlv hi) rfl (fun _ => rfl) vrC_ones (by (try simp only [maxLen, List.length_nil, List.length_take]); omega) (by (try simp only [List.length_nil, List.length_take]); omega)) ?_; rintro v57 _ _ ⟨rfl, rfl⟩; refine ⟨Le.refl _, .inr SubC.sub, ?_⟩; refine re 11 (by kernel_rfl) rfl (Le.refl _) rfl (e_appendT (f := vrC) (l := l.take i) (c := x) rfl un22 ti39 rfl rfl rfl rfl rfl rfl rfl (vrC_ones x) (by (try simp only [maxLen, List.length_take]); omega) (by (try simp only [List.length_take]); omega)) ?_; rintro v60 _ _ ⟨rfl, rfl⟩; refine ⟨Le.refl _, .inr SubC.sub, ?_⟩; refine re 18 (by kernel_rfl) rfl (Le.refl _) rfl (e_appendSl (f := vrC) (l := l.take i ++ [x]) (ls := l.drop i) rfl un22 ti39 rfl rfl rfl rfl (Sl.dropM hlv rfl hi) rfl (fun _ => rfl) vrC_ones (by (try simp only [maxLen, List.length_append, List.length_take, List.length_drop, List.length_cons, List.length_nil]); omega) (by (try simp only [List.length_append, List.length_take, List.length_drop, List.length_cons, List.length_nil]); omega)) ?_
    rintro v67 _ _ ⟨rfl, rfl⟩; refine ⟨Le.refl _, .inr SubC.sub, ?_⟩; refine r_len v67 (fun hsh67 hone18 => ?_); refine r_run [19, 20] (by kernel_rfl) rfl rfl rfl ?_; refine r_e0 21 (by kernel_rfl) (by kernel_rfl) rfl (Le.refl _) rfl rfl (e_storeS rfl ti22 rfl rfl (by assumption) rfl (by rfl)) ?_; rintro _ _ _ ⟨rfl, rfl⟩; refine ⟨Le.refl _, .inl rfl, ?_⟩; refine r_heap (H' := row b 61 [v67, av] :: _) ?_ (fun _ h => h); refine r_end (by kernel_rfl) (n_end0 rfl (fun w' hw => ?_)); obtain ⟨J, hJ, hw2, hsl⟩ := st_freezeT (f := vrC) (picks_st2 (tvec 39 5 vrC v67 (l.take i ++ [x] ++ l.drop i)) (row b 61 [v67, av]) hw) (fun _ => rfl); exact ⟨_, rfl, J, _, ⟨hJ, rfl, v67, rfl, by rw [hpt]; exact hsl⟩, subC_st hw2⟩
theorem setv_calls (b : Nat) (l : List Vr) (n v : List UInt8) (lv av : Value) (hav : One av) (hl : l.length ≤ 64) (hn : n.length ≤ 1000000000) (I : Look) (hlv : Sl I 5 lv (l.map vrC)) (F : List HA) (w0 w : World) (hw0 : St w0 I (row b 61 [lv, av] :: F) w) : Calls Tryz.prog 15 [.pointer (some ⟨b, 0, none⟩), str n, str v].toArray w (fun e w' => ∃ v0, e = .returned v0 ∧ ∃ I' H', (Le I I' ∧ v0 = .int .i64 ((setN l n v).1 : Int) ∧ ∃ lv', H' = row b 61 [lv', av] :: F ∧ Sl I' 5 lv' ((setN l n v).2.map vrC)) ∧ St w I' H' w') := by
 refine enter Tryz.func15 rfl Tryz.ntmps15 rfl (hw0.self) (trun rfl (tr (l_run 2 rfl (lq rfl (qc rfl rfl rfl ((fun w hw => at_pure b l lv av w (by omega) (rowed_of hw) (hlv.mono hw.le) n))) ?_)))); refine le rfl (e_alloc rfl ti39 rfl) ?_; rintro _ _ _ ⟨b7, rfl, rfl, rfl⟩; refine l_e0 rfl rfl ((by exact e_store_all rfl ti39 rfl rfl rfl (by exact vrC_ones _) rfl)) ?_; rintro _ _ _ ⟨rfl, rfl⟩; refine l_heap (H' := row b7 39 (vrC (atN l n)) :: _) ?_ (fun _ h => h); refine lnt (t_block (tr (l_run 1 rfl (lq rfl (qc rfl rfl rfl ((fun w _ => rname_pure n w (by omega)))) ?_)))); refine lrun rfl (t_cond rfl (fun hc0 => ?_) (fun hc0 => ?_))
 ·have h1 : nameB n = false := by rw [Bool.not_eq_true'] at hc0; exact hc0
  refine trun rfl (tret (n_ret1 rfl rfl (fun w' hw => ?_))); rw [setN_name h1]; exact ⟨_, rfl, I, _, ⟨Le.refl _, rfl, lv, rfl, hlv⟩, subC_st hw⟩
 ·have h1 : nameB n = true := by rw [Bool.not_eq_false'] at hc0; exact hc0
  refine tr (l_run 1 rfl (lq rfl (q_ld rfl rfl (by rfl)) ?_)); refine lrun rfl (t_cond rfl (fun hc1 => ?_) (fun hc1 => ?_))
  ·refine trun rfl (tret (n_ret1 rfl rfl (fun w' hw => ?_))); rw [setN_ro h1 hc1]; exact ⟨_, rfl, I, _, ⟨Le.refl _, rfl, lv, rfl, hlv⟩, subC_st hw⟩
  ·refine tr (l_run 1 rfl (lq rfl (q_len_str rfl un9 rfl) (lrun rfl (t_cond rfl (fun hc2 => ?_) (fun hc2 => ?_)))))
   ·simp at hc2
    have h3 : 65536 < v.length := by omega
    refine trun rfl (tret (n_ret1 rfl rfl (fun w' hw => ?_))); rw [setN_long h1 hc1 h3]; exact ⟨_, rfl, I, _, ⟨Le.refl _, rfl, lv, rfl, hlv⟩, subC_st hw⟩
   ·simp at hc2
    have h3 : ¬ 65536 < v.length := by omega
    refine tq (s_run 2 rfl (sq rfl (qc rfl rfl rfl ((fun w hw => find_pure b l lv av w (by omega) (rowed_of hw) (hlv.mono hw.le) n))) ?_)); refine s_run 2 rfl ?_
    refine s_and2 6 4 27 34 33 _ _ rfl rfl rfl rfl rfl rfl (fun h34 => by
      simp at h34
      refine s_runG 3 rfl (sg rfl (q_ld rfl rfl (by rfl)) ?_); refine sg rfl ((by exact q_len rfl un22 rfl (Sl.lenOf hlv (List.length_map _)))) ?_; refine s_runG 1 rfl ?_; exact s_val rfl
     ) (wanted_n rfl) rfl rfl rfl ?_
    refine s_run 1 rfl (sdn (t_cond rfl (fun hc3 => ?_) (fun hc3 => ?_)))
    ·rw [Bool.and_eq_true, decide_eq_true_eq, decide_eq_true_eq] at hc3
     have h4 := setN_full h1 hc1 h3 (findN_neg hc3.1) (by omega)
     refine trun rfl (tret (n_ret1 rfl rfl (fun w' hw => ?_))); rw [h4]; exact ⟨_, rfl, I, _, ⟨Le.refl _, rfl, lv, rfl, hlv⟩, subC_st hw⟩
    ·have h4 := setN_ok h1 hc1 h3 (fun h9 => by rw [decide_eq_true (findR_neg h9.1), decide_eq_true (show (64 : Int) ≤ (l.length : Int) by omega)] at hc3; cases hc3)
     refine t_skip (n_block (n_then (tr (l_run 2 rfl ?_)))); refine l_e0 rfl rfl (e_storeS rfl ti9 rfl rfl (by exact ⟨rfl, rfl⟩) rfl (by rfl)) ?_; rintro _ _ _ ⟨rfl, rfl⟩; refine l_heap (H' := row b7 39 (vrC ⟨(atN l n).name, v, (atN l n).e, (atN l n).r, (atN l n).u⟩) :: _) ?_ (fun _ h => h); refine lnr1 (l_run 1 rfl ?_); refine l_e0 rfl rfl (e_storeS rfl ti4 rfl rfl (by exact ⟨rfl, rfl⟩) rfl (by rfl)) ?_; rintro _ _ _ ⟨rfl, rfl⟩; refine l_heap (H' := row b7 39 (vrC ⟨(atN l n).name, v, (atN l n).e, (atN l n).r, false⟩) :: _) ?_ (fun _ h => h); refine lnr1 (l_run 1 rfl (lq rfl (q_load_rowA rfl un39 ti39 rfl rfl rfl) (lec rfl rfl rfl rfl (fun w hw => put_calls b l ⟨(atN l n).name, v, (atN l n).e, (atN l n).r, false⟩ lv av hav hl I hlv (row b7 39 (vrC ⟨(atN l n).name, v, (atN l n).e, (atN l n).r, false⟩) :: F) _ w (picks_st2 (row b 61 [lv, av]) (row b7 39 (vrC ⟨(atN l n).name, v, (atN l n).e, (atN l n).r, false⟩)) hw)) ?_))); rintro _ J40 _ ⟨hJ40, rfl, lv40, rfl, hlv40⟩; refine lnr1 (lrun rfl (t_ret (n_ret1 rfl rfl (fun w' hw => ?_)))); rw [h4]; exact ⟨_, rfl, J40, _, ⟨hJ40, rfl, lv40, rfl, hlv40⟩, subC_st hw⟩
theorem mark_calls (b : Nat) (l : List Vr) (n : List UInt8) (ex ro : Bool) (lv av : Value) (hav : One av) (hl : l.length ≤ 64) (hn : n.length ≤ 1000000000) (I : Look) (hlv : Sl I 5 lv (l.map vrC)) (F : List HA) (w0 w : World) (hw0 : St w0 I (row b 61 [lv, av] :: F) w) : Calls Tryz.prog 16 [.pointer (some ⟨b, 0, none⟩), str n, .bool ex, .bool ro].toArray w (fun e w' => ∃ v0, e = .returned v0 ∧ ∃ I' H', (Le I I' ∧ (∃ r, v0 = .int .i64 r) ∧ ∃ lv', H' = row b 61 [lv', av] :: F ∧ Sl I' 5 lv' ((markN l n ex ro).map vrC)) ∧ St w I' H' w') := by
 refine enter Tryz.func16 rfl Tryz.ntmps16 rfl (hw0.self) (trun rfl (t_seq (t_block (tr (l_run 1 rfl (lq rfl (qc rfl rfl rfl ((fun w _ => rname_pure n w (by omega)))) ?_)))))); refine lrun rfl (t_cond rfl (fun hc0 => ?_) (fun hc0 => ?_))
 ·have h1 : nameB n = false := by rw [Bool.not_eq_true'] at hc0; exact hc0
  refine trun rfl (tret (n_ret1 rfl rfl (fun w' hw => ?_))); rw [markN_name h1]; exact ⟨_, rfl, I, _, ⟨Le.refl _, ⟨_, rfl⟩, lv, rfl, hlv⟩, subC_st hw⟩
 ·have h1 : nameB n = true := by rw [Bool.not_eq_false'] at hc0; exact hc0
  refine tq (s_run 3 rfl ?_)
  refine s_and2 2 2 17 20 19 _ _ rfl rfl rfl rfl rfl rfl (fun h20 => by
    simp at h20
    refine s_runG 2 rfl ?_; exact s_val rfl
   ) (wanted_n rfl) rfl rfl rfl ?_
  refine s_run 1 rfl (sdn (t_cond rfl (fun hc1 => ?_) (fun hc1 => ?_)))
  ·have h2 : ex = false ∧ ro = false := by cases ex <;> cases ro <;> first | exact ⟨rfl, rfl⟩ | cases hc1
   refine trun rfl (tret (n_ret1 rfl rfl (fun w' hw => ?_))); rw [markN_none h1 h2]; exact ⟨_, rfl, I, _, ⟨Le.refl _, ⟨_, rfl⟩, lv, rfl, hlv⟩, subC_st hw⟩
  ·have h2 : ¬ (ex = false ∧ ro = false) := by rintro ⟨rfl, rfl⟩; cases hc1
   refine tq (s_run 2 rfl (sq rfl (qc rfl rfl rfl ((fun w hw => find_pure b l lv av w (by omega) (rowed_of hw) (hlv.mono hw.le) n))) ?_)); refine s_run 2 rfl ?_
   refine s_and2 6 4 26 33 32 _ _ rfl rfl rfl rfl rfl rfl (fun h33 => by
     simp at h33
     refine s_runG 3 rfl (sg rfl (q_ld rfl rfl (by rfl)) ?_); refine sg rfl ((by exact q_len rfl un22 rfl (Sl.lenOf hlv (List.length_map _)))) ?_; refine s_runG 1 rfl ?_; exact s_val rfl
    ) (wanted_n rfl) rfl rfl rfl ?_
   refine s_run 1 rfl (sdn (t_cond rfl (fun hc2 => ?_) (fun hc2 => ?_)))
   ·rw [Bool.and_eq_true, decide_eq_true_eq, decide_eq_true_eq] at hc2
    have h4 := markN_full h1 h2 (findN_neg hc2.1) (by omega)
    refine trun rfl (tret (n_ret1 rfl rfl (fun w' hw => ?_))); rw [h4]; exact ⟨_, rfl, I, _, ⟨Le.refl _, ⟨_, rfl⟩, lv, rfl, hlv⟩, subC_st hw⟩
   ·have h4 := markN_ok h1 h2 (fun h9 => by rw [decide_eq_true (findR_neg h9.1), decide_eq_true (show (64 : Int) ≤ (l.length : Int) by omega)] at hc2; cases hc2)
    refine t_skip (n_block (n_then (tr (l_run 2 rfl (lq rfl (qc rfl rfl rfl ((fun w hw => at_pure b l lv av w (by omega) (rowed_of hw) (hlv.mono hw.le) n))) ?_))))); refine le rfl (e_alloc rfl ti39 rfl) ?_; rintro _ _ _ ⟨b9, rfl, rfl, rfl⟩; refine l_e0 rfl rfl ((by exact e_store_all rfl ti39 rfl rfl rfl (by exact vrC_ones _) rfl)) ?_; rintro _ _ _ ⟨rfl, rfl⟩; refine l_heap (H' := row b9 39 (vrC (atN l n)) :: _) ?_ (fun _ h => h); refine lnr1 (l_quietHead 5 (s_run 1 rfl (sq rfl (q_ld rfl rfl (by rfl)) ?_))); refine s_run 1 rfl ?_
    refine s_or2 1 2 39 41 40 _ _ rfl rfl rfl rfl rfl rfl (fun h41 => by
      refine s_runG 1 rfl ?_; exact s_val rfl
     ) (wanted_n rfl) rfl rfl rfl ?_
    refine s_list (l_run 1 rfl ?_); refine l_e0 rfl rfl (e_storeS rfl ti4 rfl rfl (by exact ⟨rfl, rfl⟩) rfl (by rfl)) ?_; rintro _ _ _ ⟨rfl, rfl⟩; refine l_heap (H' := row b9 39 (vrC ⟨(atN l n).name, (atN l n).value, (atN l n).e || ex, (atN l n).r, (atN l n).u⟩) :: _) ?_ (fun _ h => h); refine lnr1 (l_quietHead 5 (s_run 1 rfl (sq rfl (q_ld rfl rfl (by rfl)) ?_))); refine s_run 1 rfl ?_
    refine s_or2 1 2 45 47 46 _ _ rfl rfl rfl rfl rfl rfl (fun h47 => by
      simp at h47
      refine s_runG 1 rfl ?_; exact s_val rfl
     ) (wanted_n rfl) rfl rfl rfl ?_
    refine s_list (l_run 1 rfl ?_); refine l_e0 rfl rfl (e_storeS rfl ti4 rfl rfl (by exact ⟨rfl, rfl⟩) rfl (by (simp only [List.set_cons_succ, List.set_cons_zero]; rfl))) ?_; rintro _ _ _ ⟨rfl, rfl⟩; refine l_heap (H' := row b9 39 (vrC ⟨(atN l n).name, (atN l n).value, (atN l n).e || ex, (atN l n).r || ro, (atN l n).u⟩) :: _) ?_ (fun _ h => h); refine lnr1 (l_run 1 rfl (lq rfl (q_load_rowA rfl un39 ti39 rfl rfl rfl) (lec rfl rfl rfl rfl (fun w hw => put_calls b l ⟨(atN l n).name, (atN l n).value, (atN l n).e || ex, (atN l n).r || ro, (atN l n).u⟩ lv av hav hl I hlv (row b9 39 (vrC ⟨(atN l n).name, (atN l n).value, (atN l n).e || ex, (atN l n).r || ro, (atN l n).u⟩) :: F) _ w (picks_st2 (row b 61 [lv, av]) (row b9 39 (vrC ⟨(atN l n).name, (atN l n).value, (atN l n).e || ex, (atN l n).r || ro, (atN l n).u⟩)) hw)) ?_))); rintro _ J51 _ ⟨hJ51, rfl, lv51, rfl, hlv51⟩; refine lnr1 (lrun rfl (t_ret (n_ret1 rfl rfl (fun w' hw => ?_)))); rw [h4]; exact ⟨_, rfl, J51, _, ⟨hJ51, ⟨_, rfl⟩, lv51, rfl, hlv51⟩, subC_st hw⟩
theorem setArgs_calls (b : Nat) (al : List (List UInt8)) (lv sv : Value) (I : Look) (hs : Sl I 1 sv (al.map svC)) (F : List HA) (w0 w : World) (hw0 : St w0 I (row b 61 [lv, nilV] :: F) w) : Calls Tryz.prog 17 [.pointer (some ⟨b, 0, none⟩), sv].toArray w (fun e w' => ∃ v, e = .returned v ∧ ∃ I' H', (Le I I' ∧ (∃ r, v = .int .i64 r) ∧ ∃ av, H' = row b 61 [lv, av] :: F ∧ Sl I' 1 av ((argsN al).map svC)) ∧ St w I' H' w') := by
 refine enter Tryz.func17 rfl Tryz.ntmps17 rfl (hw0.self) (trun rfl (t_seq (tr (l_run 1 rfl ?_)))); refine lq rfl ((by exact q_len rfl un23 rfl (Sl.lenOf hs (List.length_map _)))) ?_; refine lrun rfl (t_cond rfl (fun hc0 => ?_) (fun hc0 => ?_))
 ·simp at hc0
  have h1 : argsN al = [] := if_neg (by omega)
  refine trun rfl (tret (n_ret1 rfl rfl (fun w' hw => ?_))); exact ⟨_, rfl, I, _, ⟨Le.refl _, ⟨_, rfl⟩, nilV, rfl, by rw [h1]; exact sl_nil (fun _ h => by cases h)⟩, subC_st hw⟩
 ·simp at hc0
  have h1 : argsN al = al := if_pos (by omega)
  refine tskip (tr (l_run 1 rfl (le rfl (e_buildSlice0 rfl un23 ti9) ?_))); rintro v9 _ _ ⟨⟨b9, hb9⟩, rfl, rfl⟩; refine l_run 1 rfl ?_; refine le rfl (e_appendSl (f := svC) (l := []) (ls := al) rfl un23 ti9 rfl rfl rfl rfl (hs) rfl (fun _ => rfl) svC_ones (by (try simp only [maxLen, List.length_nil]); omega) (by (try simp only [List.length_nil]); omega)) ?_; rintro v11 _ _ ⟨rfl, rfl⟩; refine l_heap (H' := tvec 9 1 svC v11 al :: _) ?_ (fun _ h => h); refine l_len v11 (fun hsh11 hone => ?_); refine l_run 2 rfl ?_; refine l_e0 rfl rfl (e_storeS rfl ti23 rfl rfl (by assumption) rfl (by (simp only [List.set_cons_succ, List.set_cons_zero]; rfl))) ?_; rintro _ _ _ ⟨rfl, rfl⟩; refine l_heap (H' := row b 61 [lv, v11] :: _) ?_ (fun _ h => h); refine l_freezeT (f := svC) (l := al) v11 (fun _ => rfl) (fun J hJ hsl => ?_); refine lnr1 (lrun rfl (t_ret (n_ret1 rfl rfl (fun w' hw => ?_)))); exact ⟨_, rfl, J, _, ⟨hJ, ⟨_, rfl⟩, v11, rfl, by rw [h1]; exact hsl⟩, subC_st hw⟩
end Go.Tri

/-
 Numbers.
-/
namespace Go.Tri
open Go.Proofs Go.RowKit
set_option maxRecDepth 10000
open Go.Sort
def numRes (s : List UInt8) : Value := .tuple #[.int .i64 ((numB s).getD 0), .bool (numB s).isSome]
theorem fmt_pure (n : Int) (w : World) (h : -9223372036854775808 ≤ n ∧ n ≤ 9223372036854775807) (hG : GW w) : Pure Tryz.prog 92 [.int .i64 n, .int .i64 10] w (str (Lib.itoa n)) :=
 (Tryz.strconv_FormatInt_10 n h.1 h.2 w hG.tab).mono fun e w' ⟨h1, k, os, h2⟩ => ⟨h1, h2 ▸ below_grown w k os⟩
theorem dd_len : ∀ k n : Nat, n < 10 ^ (k + 1) → (Lib.decDigits n).length ≤ k + 1
 | 0, n, h => by
  rw [digits_lt (by omega)]; simp
 | k + 1, n, h => by
  by_cases h1 : n < 10
  ·rw [digits_lt h1]; simp
  ·rw [digits_ge h1, List.length_append]
   have := dd_len k (n / 10) (by
    rw [Nat.div_lt_iff_lt_mul (by omega)]
    rw [Nat.pow_succ] at h; exact h)
   simp; omega
theorem dd_step {N u : Nat} {l : List UInt8} (h : Lib.decDigits N = Lib.decDigits u ++ l) (hu : ¬ u < 10) : Lib.decDigits N = Lib.decDigits (u / 10) ++ (UInt8.ofNat (48 + u % 10) :: l) := by
 rw [h, digits_ge hu]; simp
theorem dd_last {N u : Nat} {l : List UInt8} (h : Lib.decDigits N = Lib.decDigits u ++ l) (hu : u < 10) : Lib.decDigits N = UInt8.ofNat (48 + u % 10) :: l := by
 rw [h, digits_lt hu]; rfl
theorem itoa_eq (n : Int) : Lib.itoa n = if n < 0 then 45 :: Lib.decDigits n.natAbs else Lib.decDigits n.natAbs := by
 unfold Lib.itoa
 split
 ·rfl
 ·congr 1; omega
theorem numB_none {s : List UInt8} (h : numT s = []) : numB s = none := by unfold numB; rw [if_pos h]
theorem numB_at {s : List UInt8} {v : Nat} (ht : numT s ≠ []) (hv : decV 0 (numT s) = some v) : numB s = if minusB s then (if v ≤ two63 then some (-(v : Int)) else none) else if v < two63 then some (v : Int) else none := by
 unfold numB; rw [if_neg ht, hv]; rfl
theorem numRes_none {s : List UInt8} (h : numB s = none) : numRes s = .tuple #[.int .i64 0, .bool false] := by unfold numRes; rw [h]; rfl
theorem numRes_some {s : List UInt8} {n : Int} (h : numB s = some n) : numRes s = .tuple #[.int .i64 n, .bool true] := by unfold numRes; rw [h]; rfl
theorem digit_not (c : UInt8) : (decide ((c.toNat : Int) < 48) || decide (57 < (c.toNat : Int))) = !digitB' c := by
 unfold digitB'
 by_cases h2 : (c.toNat : Int) < 48 <;> by_cases h3 : 57 < (c.toNat : Int) <;> simp [h2, h3] <;> omega
theorem decimal_pure (n : Int) (w : World) (h : -9223372036854775808 ≤ n ∧ n ≤ 9223372036854775807) (hG : GW w) : Pure Tryz.prog 72 [.int .i64 n] w (str (Lib.itoa n)) := by
 refine enter Tryz.func72 rfl Tryz.ntmps72 rfl (St.start w (look w) (Le.refl _)) (trun rfl (tr (l_run 1 rfl (lq rfl (qc rfl rfl rfl ((fun w hw => fmt_pure n w h (hG.le hw.le)))) (lrun rfl (t_ret (n_ret1 rfl rfl (fun w' hw => ?_)))))))); exact ⟨rfl, hw.below⟩
theorem rdecimal_pure (n : Int) (w : World) (h : -9223372036854775808 ≤ n ∧ n ≤ 9223372036854775807) : Pure Tryz.prog 200 [.int .i64 n] w (str (Lib.itoa n)) := by
 have hdl := dd_len 18 n.natAbs (by omega)
 refine enter Tryz.func200 rfl Tryz.ntmps200 rfl (St.start w (look w) (Le.refl _)) (trun rfl (trun rfl (t_cutE (ι := Nat) (fun zz => zz = n.natAbs) (fun zz => [(3, .int .i64 (-(zz : Int)))]) [(0, _), (2, _)] (fun zz => look w) (fun zz => []) (sub_rfl rfl) ?_ ?_)))
 ·refine trun rfl (t_cond rfl (fun hc0 => ?_) (fun hc0 => ?_))
  ·simp at hc0
   refine t_region (l_run 1 rfl (lq rfl (q_neg64 rfl rfl (by omega)) ?_)); refine l_runA rfl (n_cut (n.natAbs) ?_ (sub_cons' rfl (congrArg (Value.int IntKind.i64) (by omega)) (sub_nil)) (sub_rfl rfl) (fun _ h => by dsimp only; exact subC_st h))
   ·dsimp only
    all_goals rfl
  ·simp at hc0
   refine t_skip (n_cut (n.natAbs) ?_ (sub_cons' rfl (congrArg (Value.int IntKind.i64) (by omega)) (sub_nil)) (sub_rfl rfl) (fun _ h => by dsimp only; exact subC_st h))
   ·dsimp only
    all_goals rfl
 rintro u hu0; refine trun rfl (t_seq (t_block (t_loopE (ι := Nat × List UInt8 × Value × Look) (fun zz => Le (look w) zz.2.2.2 ∧ Lib.decDigits n.natAbs = Lib.decDigits zz.1 ++ zz.2.1 ∧ zz.1 ≤ 9223372036854775808) (fun zz => zz.1) (fun zz => [(3, .int .i64 (-(zz.1 : Int))), (4, zz.2.2.1)]) [(0, _), (2, _)] (fun zz => zz.2.2.2) (fun zz => [tvec 5 1 byC zz.2.2.1 zz.2.1]) (u, [], .slice none 0 0, look w) ?_ (sub_rfl rfl) (sub_rfl rfl) (fun _ h => st_nilT 5 1 byC h) ?_)))
 ·dsimp only
  subst hu0; exact ⟨Le.refl _, by simp, by omega⟩
 rintro ⟨u, l, v, J⟩ ⟨hJ, hdd, hub⟩; dsimp only at *
 have hll : l.length ≤ 19 := by have := congrArg List.length hdd; rw [List.length_append] at this; omega
 refine t_block (t_seq (t_freezeT (f := byC) (l := l) v (fun _ => rfl) (fun J1 hJ1 hv => ?_))); refine t_region (l_run 1 rfl (lq rfl (q_rem rfl rfl rfl (by decide)) ?_)); refine lq rfl (q_sub64 rfl rfl rfl (by rw [tmod_neg]; omega)) ?_; refine lq rfl (q_conv_u8 (48 + u % 10) rfl un2 un5 rfl (by rw [tmod_neg]; omega)) ?_; refine le rfl (e_buildSlice1 rfl un98 ti5 rfl rfl rfl (by rfl) rfl) ?_; rintro _ _ _ ⟨b14, rfl, rfl, rfl⟩; refine l_heap (H' := tvec 5 1 byC (.slice (some ⟨b14, 0, none⟩) 1 1) [UInt8.ofNat (48 + u % 10)] :: _) ?_ (fun _ h => st_rowVec h rfl (by decide)); refine l_run 1 rfl ?_; refine le rfl (e_appendSl (f := byC) (l := [UInt8.ofNat (48 + u % 10)]) rfl un98 ti5 rfl rfl rfl rfl (hv) rfl (fun _ => rfl) byC_ones (by simp only [maxLen, List.length_cons, List.length_nil]; omega) (by simp only [List.length_cons, List.length_nil]; omega)) ?_; rintro v16 _ _ ⟨rfl, rfl⟩; refine lrun rfl (tr (l_run 1 rfl (lq rfl (q_quo64 rfl rfl rfl (by decide) (by rw [tdiv_neg]; omega)) ?_))); refine lrun rfl (trun rfl (t_cond rfl (fun hc1 => ?_) (fun hc1 => ?_)))
 ·have hu10 : u < 10 := by have := of_decide_eq_true hc1; rw [tdiv_neg] at this; omega
  have hdl2 := dd_last hdd hu10
  refine t_exit (n_exit_other rfl (n_exit_then (n_exit_block (n_then (t_seq (trun rfl (t_cond rfl (fun hc2 => ?_) (fun hc2 => ?_))))))))
  ·simp at hc2
   refine tr (l_run 1 rfl (lq rfl (q_bytes_str rfl un98 un9 un5 rfl) (lq rfl (q_cat rfl rfl rfl (by (simp only [List.length_append, List.length_cons, List.length_nil, List.length_take, List.length_drop]; omega))) ?_))); refine lrun rfl (tret (n_ret1 rfl rfl (fun w' hw => ?_))); refine ⟨?_, (hw.less (hJ.trans hJ1)).below⟩
   rw [itoa_eq, if_pos (by omega), hdl2]; rfl
  ·simp at hc2
   refine tskip (tr (l_run 1 rfl (lq rfl (q_bytes_str rfl un98 un9 un5 rfl) (lrun rfl (t_ret (n_ret1 rfl rfl (fun w' hw => ?_))))))); refine ⟨?_, (hw.less (hJ.trans hJ1)).below⟩
   rw [itoa_eq, if_neg (by omega), hdl2]; rfl
 ·have hu10 : ¬ u < 10 := by have := of_decide_eq_false hc1; rw [tdiv_neg] at this; omega
  refine t_skip (n_block (n_roundE ((u / 10, [UInt8.ofNat (48 + u % 10)] ++ l, v16, J1)) ?_ ?_ (sub_cons' rfl (congrArg (Value.int IntKind.i64) (tdiv_neg u)) (sub_rfl rfl)) (sub_rfl rfl) (fun _ h => by dsimp only; exact subC_st h)))
  ·dsimp only; exact ⟨hJ.trans hJ1, dd_step hdd hu10, by omega⟩
  ·dsimp only
   show u / 10 < u; omega
theorem rnumber_pure (s : List UInt8) (w : World) (hs : s.length ≤ 4611686018427387904) : Pure Tryz.prog 199 [str s] w (numRes s) := by
 refine enter Tryz.func199 rfl Tryz.ntmps199 rfl (St.start w (look w) (Le.refl _)) (trun rfl (trun rfl (trun rfl (t_cutE (ι := Bool × List UInt8) (fun zz => zz.1 = minusB s ∧ zz.2 = numT s ∧ zz.2.length ≤ s.length) (fun zz => [(4, .bool zz.1), (5, str zz.2)]) [(0, _), (2, _), (3, _)] (fun zz => look w) (fun zz => []) (sub_rfl rfl) ?_ ?_))))
 ·refine tq (s_run 1 rfl (sq rfl (q_neq_str rfl rfl rfl) (s_run 1 rfl ?_)))
  refine s_and2 8 2 13 22 21 _ _ rfl rfl rfl rfl rfl rfl (fun h22 => by
    simp at h22
    have hs0 : 0 < s.length := List.length_pos_iff.2 (by simpa using h22)
    refine s_runG 1 rfl (sg rfl ((by exact q_index_strN rfl un9 rfl rfl (by omega))) ?_); refine sg rfl (q_eql_u8c rfl rfl rfl rfl) (s_runG 1 rfl ?_)
    refine s_or2 3 6 17 21 20 _ _ rfl rfl rfl rfl rfl rfl (fun h21 => by
      simp at h21
      refine s_runG 1 rfl (sg rfl ((by exact q_index_strN rfl un9 rfl rfl (by omega))) ?_); refine sg rfl (q_eql_u8c rfl rfl rfl rfl) ?_; exact s_val rfl
     ) (wanted_g rfl rfl rfl rfl) rfl rfl rfl ?_
    exact s_val rfl
   ) (wanted_n rfl) rfl rfl rfl ?_
  refine sdn (t_cond rfl (fun hc0 => ?_) (fun hc0 => ?_))
  ·have hs0 : 0 < s.length := by have : signed s = true := hc0; unfold signed at this; rw [Bool.and_eq_true, decide_eq_true_eq] at this; exact List.length_pos_iff.2 this.1
   refine tr (l_run 1 rfl (lq rfl ((by exact q_index_strN rfl un9 rfl rfl (by omega))) ?_)); refine lq rfl (q_eql_u8c rfl rfl rfl rfl) (lrun rfl (t_region (l_run 1 rfl (lq rfl (q_slice_str_from rfl un9 rfl rfl (by omega)) ?_)))); refine l_runA rfl (n_cut ((decide (nth s 0 0 = 45), s.drop 1)) ?_ (sub_rfl rfl) (sub_rfl rfl) (fun _ h => by dsimp only; exact subC_st h))
   ·dsimp only; exact ⟨by unfold minusB; rw [show signed s = true from hc0, Bool.true_and], by unfold numT; rw [show signed s = true from hc0, if_pos rfl], by rw [List.length_drop]; omega⟩
  ·refine t_skip (n_cut ((false, s)) ?_ (sub_rfl rfl) (sub_rfl rfl) (fun _ h => by dsimp only; exact subC_st h))
   ·dsimp only; exact ⟨by unfold minusB; rw [show signed s = false from hc0, Bool.false_and], by unfold numT; rw [show signed s = false from hc0, if_neg (by simp)], Nat.le_refl _⟩
 rintro ⟨mi, t⟩ ⟨hmi, ht, htl⟩; dsimp only at *; refine t_seq (tr (l_run 1 rfl (lq rfl (q_eql_str rfl rfl rfl) (ln (t_cond rfl (fun hc1 => ?_) (fun hc1 => ?_))))))
 ·have hc1 : t = [] := of_decide_eq_true hc1
  refine trun rfl (tret (n_ret2 rfl rfl rfl (fun w' hw => ?_))); refine ⟨?_, hw.below⟩; rw [numRes_none (numB_none (by rw [← ht, hc1]))]
 ·have hc1 : t ≠ [] := of_decide_eq_false hc1
  refine tskip (trun rfl (trun rfl (t_seq (trun rfl (t_block (t_loopE (ι := Nat × Nat) (fun zz => zz.1 ≤ t.length ∧ decV 0 (t.take zz.1) = some zz.2 ∧ zz.2 ≤ 9223372036854775808) (fun zz => t.length - zz.1) (fun zz => [(8, .int .i64 (zz.1 : Int)), (7, .int .i64 (-(zz.2 : Int)))]) [(4, _), (5, _), (0, _), (29, _), (6, _)] (fun zz => look w) (fun zz => []) (0, 0) ?_ (sub_rfl rfl) (sub_rfl rfl) (fun _ h => subC_st h) ?_))))))
  ·dsimp only; exact ⟨Nat.zero_le _, rfl, Nat.zero_le _⟩
  rintro ⟨i, v⟩ ⟨hi, hv, hvb⟩; dsimp only at *; refine t_seq (tr (l_run 2 rfl (lq rfl (q_len_str rfl un9 rfl) (lrun rfl (t_cond rfl (fun hc2 => ?_) (fun hc2 => ?_))))))
  ·simp at hc2
   refine tskip (t_seq (t_block (t_seq (tq (s_run 2 rfl (sq rfl ((by exact q_index_strN rfl un9 rfl rfl (by omega))) ?_)))))); refine s_run 2 rfl ?_
   refine s_or2 4 4 40 45 44 _ _ rfl rfl rfl rfl rfl rfl (fun h45 => by
     simp at h45
     refine s_runG 2 rfl (sg rfl ((by exact q_index_strN rfl un9 rfl rfl (by omega))) ?_); refine s_runG 1 rfl ?_; exact s_val rfl
    ) (wanted_n rfl) rfl rfl rfl ?_
   refine sdn (t_cond rfl (fun hc3 => ?_) (fun hc3 => ?_))
   ·refine trun rfl (tret (n_ret2 rfl rfl rfl (fun w' hw => ?_))); refine ⟨?_, hw.below⟩
    have hbd : digitB' (nth t i 0) = false := by have := digit_not (nth t i 0); rw [show _ = true from hc3] at this; simpa using this
    subst ht; rw [numRes_none (numB_bad (i := i) (by omega) hbd)]
   ·refine tskip (t_seq ?_)
    have hdg : digitB' (nth t i 0) = true := by have := digit_not (nth t i 0); rw [show _ = false from hc3] at this; simpa using this
    have hdg2 := (digit_iff _).1 hdg
    have hv2 := decV_take (t := t) (i := i) (by omega) hv
    rw [hdg, if_pos rfl] at hv2; refine t_region (l_run 2 rfl (lq rfl ((by exact q_index_strN rfl un9 rfl rfl (by omega))) ?_)); refine lq rfl (q_sub_u8 48 rfl rfl rfl (by omega)) ?_; refine lq rfl (q_conv_int (r := (((nth t i 0).toNat - 48 : Nat) : Int)) rfl un5 un2 rfl (IntWalk.i64_in _ (by omega))) ?_; refine lrun rfl (t_seq (tr (l_run 3 rfl (lq rfl (q_add64 rfl rfl rfl (by omega)) ?_)))); refine lq rfl (q_quo64 rfl rfl rfl (by decide) (by rw [least_div _ (by omega)]; omega)) ?_; refine lrun rfl (t_cond rfl (fun hc4 => ?_) (fun hc4 => ?_))
    ·have h4 := of_decide_eq_true hc4
     rw [least_div _ (by omega)] at h4
     have h5 := numR_fail h4 (by omega)
     refine trun rfl (tret (n_ret2 rfl rfl rfl (fun w' hw => ?_))); refine ⟨?_, hw.below⟩; subst ht; rw [numRes_none (numB_big (i := i + 1) hv2 rfl h5)]
    ·have h4 := of_decide_eq_false hc4
     rw [least_div _ (by omega)] at h4
     have h5 := numR_step h4 (by omega)
     refine tskip (t_region (l_run 1 rfl (lq rfl (q_mul64 rfl rfl rfl (by omega)) ?_))); refine l_run 1 rfl (lq rfl (q_sub64 rfl rfl rfl (by omega)) ?_); refine l_runA rfl (n_block (n_then (t_region (l_run 1 rfl (lq rfl (q_add64 rfl rfl rfl (by omega)) ?_))))); refine l_runA rfl (n_roundE ((i + 1, v * 10 + ((nth t i 0).toNat - 48))) ?_ ?_ (sub_cons rfl (sub_cons' rfl (by congr 1; omega) (sub_nil))) (sub_rfl rfl) (fun _ h => by dsimp only; exact subC_st h))
     ·dsimp only; exact ⟨by omega, hv2, by omega⟩
     ·dsimp only
      omega
  ·simp at hc2
   refine t_exit (n_exit_then (n_exit_then (n_exit_block (n_then (t_seq (trun rfl ?_)))))); rw [List.take_of_length_le (by omega)] at hv; subst ht
   have hat := numB_at hc1 hv
   rw [← hmi] at hat; refine t_cond rfl (fun hc5 => ?_) (fun hc5 => ?_)
   ·rw [show mi = true from hc5, if_pos rfl, if_pos (show v ≤ two63 from hvb)] at hat; refine trun rfl (tret (n_ret2 rfl rfl rfl (fun w' hw => ?_))); refine ⟨?_, hw.below⟩; rw [numRes_some hat]
   ·rw [show mi = false from hc5, if_neg (by simp)] at hat; refine tskip (t_seq (trun rfl (t_cond rfl (fun hc6 => ?_) (fun hc6 => ?_))))
    ·have h6 := of_decide_eq_true hc6
     rw [if_neg (by unfold two63; omega)] at hat; refine trun rfl (tret (n_ret2 rfl rfl rfl (fun w' hw => ?_))); refine ⟨?_, hw.below⟩; rw [numRes_none hat]
    ·have h6 := of_decide_eq_false hc6
     rw [if_pos (by unfold two63; omega)] at hat; refine tskip (tr (l_run 1 rfl (lq rfl (q_neg64 rfl rfl (by omega)) ?_))); refine lrun rfl (t_ret (n_ret2 rfl rfl rfl (fun w' hw => ?_))); refine ⟨?_, hw.below⟩; rw [numRes_some hat, Int.neg_neg]
end Go.Tri

/-
 The host: what it tells, what it takes.
-/
namespace Go.Tri
open Go.Proofs Go.RowKit
set_option maxRecDepth 10000
/-- where a host's things lie -/
structure HP where
 hb : Nat
 eb : Nat
 vb : Nat
 fv : Value
 sv : Value
 ov : Value
 gv : Value
def envC (p : HP) (av : Value) : List Value := [.pointer (some ⟨p.vb, 0, none⟩), p.sv, p.fv, .int .i64 1, p.ov, av, str []]
structure HostI (I : Look) (p : HP) (lv : Value) (h : Hx) : Prop where
 sp : Sl I 5 p.sv (specL.map vrC)
 ou : Sl I 1 p.ov (h.outs.map svC)
 li : Sl I 5 lv (h.vars.map vrC)
 ar : Sl I 1 p.gv (h.args.map svC)
 on : h.outs.length ≤ 2000
 an : h.args.length ≤ 200
 vn : h.vars.length ≤ 64
theorem HostI.mono {I J : Look} {p : HP} {lv : Value} {h : Hx} (k : HostI I p lv h) (hle : Le I J) : HostI J p lv h := ⟨k.sp.mono hle, k.ou.mono hle, k.li.mono hle, k.ar.mono hle, k.on, k.an, k.vn⟩
theorem rd_sv {w0 : World} {I : Look} {H : List HA} {v : Value} {l : List (List UInt8)} (h : Sl I 1 v (l.map svC)) {i : Nat} (hi : i < l.length) : Rd w0 I H (adr v).block ((adr v).off + i * 1) (str (nth l i [])) := h.rd (j := 0) (map_getD l svC [] hi) rfl
/-- the host's rows -/
@[reducible] def hostH (p : HP) (lv av : Value) (h : Hx) (F : List HA) : List HA := row p.hb 35 [.pointer (some ⟨p.eb, 0, none⟩)] :: row p.eb 65 (envC p av) :: row p.vb 61 [lv, p.gv] :: tvec 9 1 svC av h.asked :: F
structure HostW (w : World) (p : HP) (lv av : Value) (h : Hx) : Prop where
 hb : Rowed w p.hb [.pointer (some ⟨p.eb, 0, none⟩)]
 eb : Rowed w p.eb (envC p av)
 vb : Rowed w p.vb [lv, p.gv]
 hi : HostI (look w) p lv h
theorem HostW.mono {w w' : World} {p : HP} {lv av : Value} {h : Hx} (k : HostW w p lv av h) (hle : Le (look w) (look w')) : HostW w' p lv av h := ⟨k.hb.mono hle, k.eb.mono hle, k.vb.mono hle, k.hi.mono hle⟩
theorem hostW_of {w0 w : World} {I : Look} {H : List HA} {p : HP} {lv av : Value} {h : Hx} (hi : HostI I p lv h) (hw : St w0 I H w) [InRow p.hb 35 [.pointer (some ⟨p.eb, 0, none⟩)] H] [InRow p.eb 65 (envC p av) H] [InRow p.vb 61 [lv, p.gv] H] : HostW w p lv av h := ⟨rowed_of (T := 35) hw, rowed_of (T := 65) hw, rowed_of (T := 61) hw, hi.mono hw.le⟩
theorem pick_host {H : List HA} {I : Look} {w0 w : World} {F : List HA} {p : HP} {lv av : Value} {h : Hx} [hq : Picks [row p.hb 35 [.pointer (some ⟨p.eb, 0, none⟩)], row p.eb 65 (envC p av), row p.vb 61 [lv, p.gv], tvec 9 1 svC av h.asked] F H] (hw : St w0 I H w) : St w0 I (hostH p lv av h F) w := hw.perm hq.perm
theorem shown_snoc {l : List Vr} {i : Nat} (h : i < l.length) : shownX (l.take (i + 1)) = shownX (l.take i) ++ if (nth l i vr0).u = true then [] else [nth l i vr0] := by
 rw [take_nth vr0 h]; unfold shownX; rw [List.filter_append, List.filter_cons]
 cases (nth l i vr0).u <;> rfl
theorem shown_len (l : List Vr) : (shownX l).length ≤ l.length := List.length_filter_le _ _
/-- what a command says, and the error -/
def saysX (h : Hx) (t : List UInt8) : List UInt8 × Nat := if (h.asked ++ [t]).length ≤ h.outs.length then (nth h.outs h.asked.length [], 0) else ([], 5)
def askedX (h : Hx) (t : List UInt8) : Hx := ⟨h.vars, h.args, h.outs, h.asked ++ [t]⟩
theorem envParam_pure (p : HP) (lv av : Value) (h : Hx) (n : List UInt8) (w : World) (hn : n.length ≤ 1000000000) (k : HostW w p lv av h) : Pure Tryz.prog 197 [.pointer (some ⟨p.eb, 0, none⟩), str n] w (.tuple #[str (parX h n).1, .bool (parX h n).2]) := by
 have hs3 : specL.length = 3 := rfl
 have hvl := k.hi.vn
 have hal := k.hi.an
 refine enter Tryz.func197 rfl Tryz.ntmps197 rfl (St.start w (look w) (Le.refl _)) (trun rfl (t_seq (trun rfl (t_block (t_loopE (ι := Nat) (fun zz => zz ≤ specL.length ∧ ∀ k, k < zz → (nth specL k vr0).name ≠ n) (fun zz => specL.length - zz) (fun zz => [(6, .int .i64 (zz : Int))]) [(0, _), (1, _)] (fun zz => look w) (fun zz => []) 0 ?_ (sub_rfl rfl) (sub_rfl rfl) (fun _ h => subC_st h) ?_)))))
 ·exact ⟨Nat.zero_le _, fun k h => absurd h (Nat.not_lt_zero _)⟩
 rintro i ⟨hi, hno⟩; dsimp only at *; refine t_seq (tr (l_run 4 rfl (lq rfl ((by exact q_ldr rfl rfl (rd_imm (k.eb 1 _ rfl)))) ?_))); refine lq rfl ((by exact q_len rfl un22 rfl (Sl.lenOf k.hi.sp (List.length_map _)))) ?_; refine lrun rfl (t_cond rfl (fun hc0 => ?_) (fun hc0 => ?_))
 ·simp at hc0
  have hil : i < specL.length := by omega
  refine tskip (t_seq (t_block (tr (l_run 3 rfl (lq rfl ((by exact q_ldr rfl rfl (rd_imm (k.eb 1 _ rfl)))) ?_))))); refine l_run 1 rfl ?_; refine lq rfl ((by exact q_indexAddrN rfl un22 ti39 rfl rfl (Sl.shape k.hi.sp (List.length_map _)) (by omega))) ?_; refine l_run 1 rfl (lq rfl ((by exact q_ldr rfl rfl (rd_vrf (i := i) (j := 0) k.hi.sp (by omega) rfl))) ?_); refine l_run 1 rfl (lq rfl (q_eql_str rfl rfl rfl) (ln (t_cond rfl (fun hc1 => ?_) (fun hc1 => ?_))))
  ·simp only [decide_eq_true_eq, decide_eq_false_iff_not] at hc1
   have hp := parX_hit (h := h) (findN_some hil hc1 hno)
   refine t_seq (t_qdraw mo (by kernel_rfl) (fun _ _ _ _ _ h => h) (s_run 3 rfl (sq rfl ((by exact q_ldr rfl rfl (rd_imm (k.eb 1 _ rfl)))) ?_))); refine s_run 1 rfl ?_; refine sq rfl ((by exact q_indexAddrN rfl un22 ti39 rfl rfl (Sl.shape k.hi.sp (List.length_map _)) (by omega))) ?_; refine s_run 1 rfl (sq rfl ((by exact q_ldr rfl rfl (rd_vrf (i := i) (j := 1) k.hi.sp (by omega) rfl))) ?_); refine s_run 3 rfl (sq rfl ((by exact q_ldr rfl rfl (rd_imm (k.eb 1 _ rfl)))) ?_); refine s_run 1 rfl ?_; refine sq rfl ((by exact q_indexAddrN rfl un22 ti39 rfl rfl (Sl.shape k.hi.sp (List.length_map _)) (by omega))) ?_; refine s_run 1 rfl (sq rfl ((by exact q_ldr rfl rfl (rd_vrf (i := i) (j := 4) k.hi.sp (by omega) rfl))) ?_); refine s_run 3 rfl (sdn (tret (n_ret2 rfl rfl rfl (fun w' hw => ?_)))); refine ⟨?_, hw.below⟩; rw [hp]
   try rfl
  ·simp only [decide_eq_true_eq, decide_eq_false_iff_not] at hc1; refine t_skip (n_block (n_then (t_region (l_run 1 rfl (lq rfl (q_add64 rfl rfl rfl (by omega)) ?_))))); refine l_runA rfl (n_roundE (i + 1) ?_ ?_ (sub_rfl rfl) (sub_rfl rfl) (fun _ h => by dsimp only; exact subC_st h))
   ·refine ⟨by omega, fun k hk => ?_⟩; rcases Nat.lt_succ_iff_lt_or_eq.1 hk with h | rfl
    ·exact hno k h
    ·exact hc1
   ·show specL.length - (i + 1) < specL.length - i
    omega
 ·simp at hc0
  have hf : findN specL n = none := findN_none (fun k hk => hno k (by omega))
  refine t_exit (n_exit_then (n_exit_then (n_exit_block (n_then (t_seq (tq (s_run 1 rfl (sq rfl (q_neq_str rfl rfl rfl) (s_run 1 rfl ?_)))))))))
  refine s_and2 3 2 47 51 50 _ _ rfl rfl rfl rfl rfl rfl (fun h51 => by
    simp at h51
    have hn0 : 0 < n.length := List.length_pos_iff.2 h51
    refine s_runG 1 rfl (sg rfl ((by exact q_index_strN rfl un9 rfl rfl (by omega))) ?_); refine s_runG 1 rfl ?_; exact s_val rfl
   ) (wanted_n rfl) rfl rfl rfl ?_
  refine s_run 1 rfl ?_
  refine s_and2 3 7 52 56 55 _ _ rfl rfl rfl rfl rfl rfl (fun h56 => by
    simp at h56
    have hn0 : 0 < n.length := List.length_pos_iff.2 h56.1
    refine s_runG 1 rfl (sg rfl ((by exact q_index_strN rfl un9 rfl rfl (by omega))) ?_); refine s_runG 1 rfl ?_; exact s_val rfl
   ) (wanted_n rfl) rfl rfl rfl ?_
  refine sdn (t_cond rfl (fun hc2 => ?_) (fun hc2 => ?_))
  ·have hd : (decide (n ≠ []) && digitB' (nth n 0 0)) = true := by unfold digitB'; rw [← Bool.and_assoc]; exact hc2
   refine tr (l_run 1 rfl (lq rfl (qc rfl rfl rfl ((fun w _ => rnumber_pure n w (by omega)))) ?_)); refine lrun rfl (t_seq (tq (s_run 2 rfl ?_)))
   refine s_and2 2 1 63 66 65 _ _ rfl rfl rfl rfl rfl rfl (fun h66 => by
     refine s_runG 2 rfl ?_; exact s_val rfl
    ) (wanted_n rfl) rfl rfl rfl ?_
   refine s_run 1 rfl ?_
   refine s_and2 10 5 67 78 77 _ _ rfl rfl rfl rfl rfl rfl (fun h78 => by
     simp at h78
     refine s_runG 4 rfl (sg rfl ((by exact q_ldr rfl rfl (rd_imm (k.eb 0 _ rfl)))) ?_); refine s_runG 2 rfl (sg rfl ((by exact q_ldr rfl rfl (rd_imm (k.vb 1 _ rfl)))) ?_); refine sg rfl ((by exact q_len rfl un23 rfl (Sl.lenOf k.hi.ar (List.length_map _)))) ?_; refine s_runG 1 rfl ?_; exact s_val rfl
    ) (wanted_n rfl) rfl rfl rfl ?_
   refine sdn (t_cond rfl (fun hc3 => ?_) (fun hc3 => ?_))
   ·have hp := parX_dig (h := h) hf hd hc3
    have hk3 : 1 ≤ (numB n).getD 0 ∧ (numB n).getD 0 ≤ (h.args.length : Int) := by rw [Bool.and_eq_true, Bool.and_eq_true, decide_eq_true_eq, decide_eq_true_eq] at hc3; exact ⟨hc3.1.2, hc3.2⟩
    refine tr (l_run 3 rfl (lq rfl ((by exact q_ldr rfl rfl (rd_imm (k.eb 0 _ rfl)))) ?_)); refine l_run 2 rfl (lq rfl ((by exact q_ldr rfl rfl (rd_imm (k.vb 1 _ rfl)))) ?_); refine l_run 1 rfl (lq rfl (q_sub64 rfl rfl rfl (by omega)) ?_); refine lq rfl ((by exact q_indexAddr rfl un23 ti9 rfl rfl (Sl.shape k.hi.ar (List.length_map _)) (by omega))) ?_; refine lq rfl ((by exact q_ldr rfl rfl (rd_sv (i := ((numB n).getD 0 - 1).toNat) k.hi.ar (by omega)))) ?_; refine lrun rfl (tret (n_ret2 rfl rfl rfl (fun w' hw => ?_))); refine ⟨?_, hw.below⟩; rw [hp]
    try rfl
   ·have hp := parX_dig0 (h := h) hf hd hc3
    refine tskip (trun rfl (tret (n_ret2 rfl rfl rfl (fun w' hw => ?_)))); refine ⟨?_, hw.below⟩; rw [hp]
    try rfl
  ·have hd : (decide (n ≠ []) && digitB' (nth n 0 0)) = false := by unfold digitB'; rw [← Bool.and_assoc]; exact hc2
   refine tskip (t_seq (tr (l_run 1 rfl (lq rfl (q_eql_str rfl rfl rfl) (ln (t_cond rfl (fun hc4 => ?_) (fun hc4 => ?_)))))))
   ·simp only [decide_eq_true_eq, decide_eq_false_iff_not] at hc4; subst hc4
    have hp := parX_cnt (h := h) hf
    refine tr (l_run 3 rfl (lq rfl ((by exact q_ldr rfl rfl (rd_imm (k.eb 0 _ rfl)))) ?_)); refine l_run 2 rfl (lq rfl ((by exact q_ldr rfl rfl (rd_imm (k.vb 1 _ rfl)))) ?_); refine lq rfl ((by exact q_len rfl un23 rfl (Sl.lenOf k.hi.ar (List.length_map _)))) ?_; refine lq rfl (qc rfl rfl rfl ((fun w _ => rdecimal_pure (h.args.length : Int) w (by omega)))) ?_; refine lrun rfl (tret (n_ret2 rfl rfl rfl (fun w' hw => ?_))); refine ⟨?_, hw.below⟩; rw [hp]
    try rfl
   ·simp only [decide_eq_true_eq, decide_eq_false_iff_not] at hc4
    have hp := parX_get (h := h) hf hd hc4
    refine tskip (tr (l_run 3 rfl (lq rfl ((by exact q_ldr rfl rfl (rd_imm (k.eb 0 _ rfl)))) ?_))); refine l_run 1 rfl (lq rfl (qc rfl rfl rfl ((fun w hw => get_pure p.vb h.vars lv p.gv w (by omega) (k.vb.mono hw.le) (k.hi.li.mono hw.le) n))) ?_); refine lrun rfl (t_ret (n_ret2 rfl rfl rfl (fun w' hw => ?_))); refine ⟨?_, hw.below⟩; rw [hp]
    try rfl
theorem hostParam_pure (p : HP) (lv av : Value) (h : Hx) (n : List UInt8) (w : World) (hn : n.length ≤ 1000000000) (k : HostW w p lv av h) : Pure Tryz.prog 193 [.pointer (some ⟨p.hb, 0, none⟩), str n] w (.tuple #[str (parX h n).1, .bool (parX h n).2]) := by
 refine enter Tryz.func193 rfl Tryz.ntmps193 rfl (St.start w (look w) (Le.refl _)) (trun rfl (tr (l_run 3 rfl (lq rfl ((by exact q_ldr rfl rfl (rd_imm (k.hb 0 _ rfl)))) ?_)))); refine l_run 1 rfl (lq rfl (qc rfl rfl rfl ((fun w hw => envParam_pure p lv av h n w hn (k.mono hw.le)))) (lrun rfl (t_ret (n_ret2 rfl rfl rfl (fun w' hw => ?_))))); exact ⟨rfl, hw.below⟩
theorem hostArgs_calls (p : HP) (lv av : Value) (h : Hx) (I : Look) (hi : HostI I p lv h) (F : List HA) (w0 w : World) (hw0 : St w0 I (hostH p lv av h F) w) : Calls Tryz.prog 191 [.pointer (some ⟨p.hb, 0, none⟩)].toArray w (fun e w' => ∃ v, e = .returned v ∧ ∃ I' H', (Le I I' ∧ H' = hostH p lv av h F ∧ Sl I' 1 v (h.args.map svC)) ∧ St w I' H' w') := by
 have hal := hi.an
 refine enter Tryz.func191 rfl Tryz.ntmps191 rfl (hw0.self) (trun rfl (tr (le rfl (e_buildSlice0 rfl un23 ti9) ?_))); rintro v3 _ _ ⟨⟨b3, hb3⟩, rfl, rfl⟩; refine l_run 3 rfl (lq rfl (q_ld rfl rfl (by rfl)) ?_); refine l_run 2 rfl (lq rfl (q_ld rfl rfl (by rfl)) ?_); refine l_run 2 rfl (lq rfl (q_ld rfl rfl (by rfl)) ?_); refine le rfl (e_appendSl (f := svC) (l := []) (ls := h.args) rfl un23 ti9 rfl rfl rfl rfl (hi.ar) rfl (fun _ => rfl) svC_ones (by (try simp only [maxLen, List.length_nil]); omega) (by (try simp only [List.length_nil]); omega)) ?_; rintro v14 _ _ ⟨rfl, rfl⟩; refine l_freezeT (f := svC) (l := h.args) v14 (fun _ => rfl) (fun J hJ hsl => ?_); refine lrun rfl (t_ret (n_ret1 rfl rfl (fun w' hw => ?_))); exact ⟨_, rfl, J, _, ⟨hJ, rfl, hsl⟩, subC_st hw⟩
theorem hostVars_calls (p : HP) (lv av : Value) (h : Hx) (I : Look) (hi : HostI I p lv h) (F : List HA) (w0 w : World) (hw0 : St w0 I (hostH p lv av h F) w) : Calls Tryz.prog 196 [.pointer (some ⟨p.hb, 0, none⟩)].toArray w (fun e w' => ∃ v, e = .returned v ∧ ∃ I' H', (Le I I' ∧ H' = hostH p lv av h F ∧ Sl I' 5 v ((shownX h.vars).map vrC)) ∧ St w I' H' w') := by
 have hvl := hi.vn
 refine enter Tryz.func196 rfl Tryz.ntmps196 rfl (hw0.self) (trun rfl (trun rfl (t_seq (tr (l_run 3 rfl (lq rfl (q_ld rfl rfl (by rfl)) ?_)))))); refine l_run 2 rfl (lq rfl (q_ld rfl rfl (by rfl)) ?_); refine l_run 2 rfl (lq rfl (q_ld rfl rfl (by rfl)) ?_); refine lq rfl ((by exact q_len rfl un22 rfl (Sl.lenOf hi.li (List.length_map _)))) ?_; refine lrun rfl (t_block (t_loopE (ι := Nat × Value) (fun zz => zz.1 ≤ h.vars.length) (fun zz => h.vars.length - zz.1) (fun zz => [(17, .int .i64 (zz.1 : Int)), (3, zz.2)]) [(0, _), (2, _), (15, _), (16, _)] (fun zz => I) (fun zz => (tvec 39 5 vrC zz.2 (shownX (h.vars.take zz.1)) :: hostH p lv av h F)) (0, .slice none 0 0) ?_ (sub_rfl rfl) (sub_rfl rfl) (fun _ h => by dsimp only; rw [List.take_zero]; exact st_nilT 39 5 vrC (subC_st h)) ?_))
 ·dsimp only; exact Nat.zero_le _
 rintro ⟨i, vo⟩ hi1; dsimp only at *
 have hsl := shown_len (h.vars.take i)
 rw [List.length_take] at hsl; refine trun rfl (t_seq (t_cond rfl (fun hc0 => ?_) (fun hc0 => ?_)))
 ·simp at hc0
  have hil : i < h.vars.length := by omega
  refine tskip (t_seq (t_block (tr ?_))); refine lq rfl ((by exact q_indexAddrN rfl un22 ti39 rfl rfl (Sl.shape hi.li (List.length_map _)) (by omega))) ?_; refine lq rfl ((by exact q_load_agg rfl un39 ti39 rfl rfl (rds_vr (i := i) hi.li (by omega)))) ?_; refine le rfl (e_alloc rfl ti39 rfl) ?_; rintro _ _ _ ⟨b5, rfl, rfl, rfl⟩; refine l_e0 rfl rfl ((by exact e_store_all rfl ti39 rfl rfl rfl (by exact vrC_ones _) rfl)) ?_; rintro _ _ _ ⟨rfl, rfl⟩; refine l_heap (H' := row b5 39 (vrC (nth h.vars i vr0)) :: _) ?_ (fun _ h => h); refine lnr1 (l_run 1 rfl (lq rfl (q_ld rfl rfl (by rfl)) ?_)); refine lrun rfl (t_cond rfl (fun hc1 => ?_) (fun hc1 => ?_))
  ·simp only [Bool.not_eq_true', Bool.not_eq_false'] at hc1; refine t_region (l_run 1 rfl (lq rfl ((by exact q_load_rowA rfl un39 ti39 rfl rfl rfl)) ?_)); refine le rfl (e_buildSlice1 rfl un22 ti39 rfl rfl rfl (by rfl) rfl) ?_; rintro _ _ _ ⟨b26, rfl, rfl, rfl⟩; refine le rfl (e_appendT (f := vrC) (c := nth h.vars i vr0) rfl un22 ti39 rfl rfl rfl rfl rfl rfl rfl (vrC_ones _) (by (try simp only [maxLen]); omega) (by omega)) ?_; rintro v27 _ _ ⟨rfl, rfl⟩; refine l_runA rfl (n_block (n_then (t_region (lq rfl (q_add64 rfl rfl rfl (by omega)) ?_)))); refine l_runA rfl (n_roundE ((i + 1, v27)) ?_ ?_ (sub_rfl rfl) (sub_rfl rfl) (fun _ h => by dsimp only; rw [shown_snoc hil, if_neg (by rw [hc1]; simp)]; exact subC_st h))
   ·dsimp only
    show i + 1 ≤ _
    omega
   ·dsimp only
    show h.vars.length - (i + 1) < h.vars.length - i
    omega
  ·simp only [Bool.not_eq_true', Bool.not_eq_false'] at hc1; refine t_skip (n_block (n_then (t_region (lq rfl (q_add64 rfl rfl rfl (by omega)) ?_)))); refine l_runA rfl (n_roundE ((i + 1, vo)) ?_ ?_ (sub_rfl rfl) (sub_rfl rfl) (fun _ h => by dsimp only; rw [shown_snoc hil, if_pos hc1, List.append_nil]; exact subC_st h))
   ·dsimp only
    show i + 1 ≤ _
    omega
   ·dsimp only
    show h.vars.length - (i + 1) < h.vars.length - i
    omega
 ·simp at hc0
  have hil : i = h.vars.length := by omega
  rw [hil, List.take_length]; refine t_exit (n_exit_then (n_exit_then (n_exit_block (n_then (t_seq (t_freezeT (f := vrC) (l := shownX h.vars) vo (fun _ => rfl) (fun Jf hJf hvo => ?_))))))); refine t_region (lrun rfl (t_ret (n_ret1 rfl rfl (fun w' hw => ?_)))); exact ⟨_, rfl, Jf, _, ⟨hJf, rfl, hvo⟩, subC_st hw⟩
theorem hostSet_calls (p : HP) (lv av : Value) (h : Hx) (n v : List UInt8) (hn : n.length ≤ 1000000000) (I : Look) (hi : HostI I p lv h) (F : List HA) (w0 w : World) (hw0 : St w0 I (hostH p lv av h F) w) : Calls Tryz.prog 195 [.pointer (some ⟨p.hb, 0, none⟩), str n, str v].toArray w (fun e w' => ∃ v0, e = .returned v0 ∧ ∃ I' H', (Le I I' ∧ v0 = .int .i64 ((setN h.vars n v).1 : Int) ∧ ∃ lv, H' = hostH p lv av h F ∧ HostI I' p lv (h.put (setN h.vars n v).2)) ∧ St w I' H' w') := by
 refine enter Tryz.func195 rfl Tryz.ntmps195 rfl (hw0.self) (trun rfl (tr (l_run 3 rfl (lq rfl (q_ld rfl rfl (by rfl)) ?_)))); refine l_run 2 rfl (lq rfl (q_ld rfl rfl (by rfl)) ?_); refine l_run 2 rfl (lec rfl rfl rfl rfl (fun w hw => setv_calls p.vb h.vars n v lv p.gv hi.ar.one hi.vn hn I hi.li (row p.hb 35 [.pointer (some ⟨p.eb, 0, none⟩)] :: row p.eb 65 (envC p av) :: tvec 9 1 svC av h.asked :: F) _ w (picks_st4 (row p.vb 61 [lv, p.gv]) (row p.hb 35 [.pointer (some ⟨p.eb, 0, none⟩)]) (row p.eb 65 (envC p av)) (tvec 9 1 svC av h.asked) hw)) ?_); rintro _ J16 _ ⟨hJ16, rfl, lv16, rfl, hlv16⟩; refine lrun rfl (t_ret (n_ret1 rfl rfl (fun w' hw => ?_))); exact ⟨_, rfl, J16, _, ⟨hJ16, rfl, lv16, rfl, ⟨hi.sp.mono hJ16, hi.ou.mono hJ16, hlv16, hi.ar.mono hJ16, hi.on, hi.an, setN_len hi.vn⟩⟩, subC_st hw⟩
theorem hostCommand_calls (p : HP) (lv av : Value) (h : Hx) (t : List UInt8) (hn : h.asked.length ≤ 1000000000) (I : Look) (hi : HostI I p lv h) (F : List HA) (w0 w : World) (hw0 : St w0 I (hostH p lv av h F) w) : Calls Tryz.prog 192 [.pointer (some ⟨p.hb, 0, none⟩), str t].toArray w (fun e w' => ∃ v0, e = .returned v0 ∧ ∃ I' H', (I = I' ∧ v0 = .tuple #[str (saysX h t).1, .int .i64 ((saysX h t).2 : Int)] ∧ ∃ av', H' = hostH p lv av' (askedX h t) F ∧ HostI I p lv (askedX h t)) ∧ St w I' H' w') := by
 have hon := hi.on
 have hal : (h.asked ++ [t]).length = h.asked.length + 1 := by simp
 refine enter Tryz.func192 rfl Tryz.ntmps192 rfl (hw0.self) (trun rfl (t_seq (t_draw [12, 13, 16] [16] [row p.hb 35 [.pointer (some ⟨p.eb, 0, none⟩)], row p.eb 65 (envC p av)] mo (by kernel_rfl) (fun _ _ _ _ _ h => h) (r_run [0, 1, 2] (by kernel_rfl) rfl rfl rfl (rq0 3 (by kernel_rfl) rfl (Le.refl _) rfl (fun _ hI => (by exact q_ld rfl rfl (by rfl))) ?_))))); refine r_run [4, 5, 6] (by kernel_rfl) rfl rfl rfl (rq0 7 (by kernel_rfl) rfl (Le.refl _) rfl (fun _ hI => (by exact q_ld rfl rfl (by rfl))) ?_); refine r_run [8, 9] (by kernel_rfl) rfl rfl rfl (rq0 10 (by kernel_rfl) rfl (Le.refl _) rfl (fun _ hI => (by exact q_ld rfl rfl (by rfl))) ?_); refine r_run [11] (by kernel_rfl) rfl rfl rfl (re 12 (by kernel_rfl) rfl (Le.refl _) rfl (e_buildSlice1 rfl un23 ti9 rfl rfl rfl (by rfl) rfl) ?_); rintro _ _ _ ⟨b18, rfl, rfl, rfl⟩; refine ⟨Le.refl _, .inr SubC.sub, ?_⟩; refine re 13 (by kernel_rfl) rfl (Le.refl _) rfl (e_appendT (f := svC) (c := t) rfl un23 ti9 rfl rfl rfl rfl rfl rfl rfl (svC_ones t) (by simp only [maxLen]; omega) (by omega)) ?_; rintro v19 _ _ ⟨rfl, rfl⟩; refine ⟨Le.refl _, .inr SubC.sub, ?_⟩; refine r_len v19 (fun hsh19 hone19 => ?_); refine r_run [14, 15] (by kernel_rfl) rfl rfl rfl ?_; refine r_e0 16 (by kernel_rfl) (by kernel_rfl) rfl (Le.refl _) rfl rfl (e_storeS rfl ti23 rfl rfl (by assumption) rfl (by rfl)) ?_; rintro _ _ _ ⟨rfl, rfl⟩; refine ⟨Le.refl _, .inl rfl, ?_⟩; refine r_heap (H' := row p.eb 65 (envC p v19) :: _) ?_ (fun _ h => h)
 refine r_end (by kernel_rfl) (n_then (t_seq (t_seq (t_qdraw mo (by kernel_rfl) (fun _ _ _ _ _ h => h) (s_run 3 rfl (sq rfl ((by exact q_ld rfl rfl (by rfl))) ?_)))))); refine s_run 2 rfl (sq rfl ((by exact q_ld rfl rfl (by rfl))) ?_); refine sq rfl ((by exact q_lenV rfl un23 rfl)) ?_; refine s_run 3 rfl (sq rfl ((by exact q_ld rfl rfl (by rfl))) ?_); refine s_run 2 rfl (sq rfl ((by exact q_ld rfl rfl (by rfl))) ?_); refine sq rfl ((by exact q_len rfl un23 rfl (Sl.lenOf hi.ou (List.length_map _)))) ?_; refine s_run 1 rfl (sdn (t_cond rfl (fun hc0 => ?_) (fun hc0 => ?_)))
 ·simp at hc0
  have hs : saysX h t = ([], 5) := by unfold saysX; rw [if_neg (by omega)]
  refine trun rfl (tret (n_ret2 rfl rfl rfl (fun w' hw => ?_))); rw [hs]; exact ⟨_, rfl, I, hostH p lv v19 (askedX h t) F, ⟨rfl, rfl, v19, rfl, ⟨hi.sp, hi.ou, hi.li, hi.ar, hi.on, hi.an, hi.vn⟩⟩, subC_st (H' := row p.hb 35 [.pointer (some ⟨p.eb, 0, none⟩)] :: row p.eb 65 (envC p v19) :: row p.vb 61 [lv, p.gv] :: tvec 9 1 svC v19 (h.asked ++ [t]) :: F) hw⟩
 ·simp at hc0
  have hs : saysX h t = (nth h.outs h.asked.length [], 0) := by unfold saysX; rw [if_pos (by omega)]
  refine tskip (t_seq (t_qdraw mo (by kernel_rfl) (fun _ _ _ _ _ h => h) (s_run 3 rfl (sq rfl ((by exact q_ld rfl rfl (by rfl))) ?_)))); refine s_run 2 rfl (sq rfl ((by exact q_ld rfl rfl (by rfl))) ?_); refine s_run 3 rfl (sq rfl ((by exact q_ld rfl rfl (by rfl))) ?_); refine s_run 2 rfl (sq rfl ((by exact q_ld rfl rfl (by rfl))) ?_); refine sq rfl ((by exact q_lenV rfl un23 rfl)) ?_; refine sq rfl (q_sub64 rfl rfl rfl (by omega)) ?_; rw [show (((h.asked ++ [t]).length : Int) - 1) = ((h.asked.length : Nat) : Int) by omega]; refine sq rfl ((by exact q_indexAddrN rfl un23 ti9 rfl rfl (Sl.shape hi.ou (List.length_map _)) (by omega))) ?_; refine sq rfl ((by exact q_ldr rfl rfl (rd_sv (i := h.asked.length) hi.ou (by omega)))) ?_; refine s_run 2 rfl (sdn (t_ret (n_ret2 rfl rfl rfl (fun w' hw => ?_)))); rw [hs]; exact ⟨_, rfl, I, hostH p lv v19 (askedX h t) F, ⟨rfl, rfl, v19, rfl, ⟨hi.sp, hi.ou, hi.li, hi.ar, hi.on, hi.an, hi.vn⟩⟩, subC_st (H' := row p.hb 35 [.pointer (some ⟨p.eb, 0, none⟩)] :: row p.eb 65 (envC p v19) :: row p.vb 61 [lv, p.gv] :: tvec 9 1 svC v19 (h.asked ++ [t]) :: F) hw⟩
end Go.Tri
