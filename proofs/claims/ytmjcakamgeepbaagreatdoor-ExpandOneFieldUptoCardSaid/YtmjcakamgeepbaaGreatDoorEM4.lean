/-
 What stands in the place of a parameter.
-/
import Derived.Test.YtmjcakamgeepbaaGreatDoorEC5
import Derived.Test.YtmjcakamgeepbaaGreatDoorEC9
import Derived.Test.YtmjcakamgeepbaaGreatDoorPExV
import Derived.Test.YtmjcakamgeepbaaGreatDoorEI2
import Derived.Test.YtmjcakamgeepbaaGreatDoorPExW
namespace Go.Tri
open Go.Proofs Go.RowKit
set_option maxRecDepth 10000
theorem meth_Param : MethIs Tryz.prog 31 "Param" 193 := meth_is (by kernel_rfl) un31
theorem meth_Set : MethIs Tryz.prog 31 "Set" 195 := meth_is (by kernel_rfl) un31
theorem meth_Command : MethIs Tryz.prog 31 "Command" 192 := meth_is (by kernel_rfl) un31
theorem meth_Args : MethIs Tryz.prog 31 "Args" 191 := meth_is (by kernel_rfl) un31
theorem meth_Vars : MethIs Tryz.prog 31 "Vars" 196 := meth_is (by kernel_rfl) un31
theorem meth_Paths : MethIs Tryz.prog 31 "Paths" 194 := meth_is (by kernel_rfl) un31
def XR.is (r : XR) (e : Nat) (m : List UInt8) (L : List Px) (h : Hx) : Prop := match r with
 | .ok L' h' => e = 0 ∧ m = [] ∧ L = L' ∧ h = h'
 | .bad e' m' h' => e = e' ∧ e ≠ 0 ∧ m = m' ∧ L = [] ∧ h = h'
theorem XR.is.ok {r : XR} {e : Nat} {m : List UInt8} {L : List Px} {h : Hx} (k : XR.is r e m L h) (he : e = 0) : m = [] ∧ r = .ok L h := by
 cases r with
 | ok L' h' => obtain ⟨_, rfl, rfl, rfl⟩ := k; exact ⟨rfl, rfl⟩
 | bad e' m' h' => exact absurd he k.2.1
theorem XR.is.bad {r : XR} {e : Nat} {m : List UInt8} {L : List Px} {h : Hx} (k : XR.is r e m L h) (he : e ≠ 0) : L = [] ∧ r = .bad e m h := by
 cases r with
 | ok L' h' => exact absurd k.1 he
 | bad e' m' h' => obtain ⟨rfl, _, rfl, rfl, rfl⟩ := k; exact ⟨rfl, rfl⟩
/-- what a step leaves behind -/
def XPost (mb : Nat) (p : HP) (F : List HA) (r : XR) (v0 : Value) (I' : Look) (H' : List HA) : Prop := ∃ (e : Nat) (m : List UInt8) (L : List Px) (h' : Hx) (lv av : Value), H' = makH mb m e p lv av h' F ∧ HostI I' p lv h' ∧ PxR I' v0 L ∧ XR.is r e m L h'
/-- sizes of what is made -/
def Small (r : XR) : Prop := ∀ L h', r = .ok L h' → L.length ≤ 1000000 ∧ (textX L).length ≤ 900000000
/-- what the call does with the host's state -/
def ParamOk (x : PE) (I0 : Look) (mb : Nat) (p : HP) (h : Hx) (r : XR) : Prop := ∀ (I : Look) (lv av : Value) (F : List HA) (w0 w : World), Le I0 I → EnvI I → HostI I p lv h → St w0 I (makH mb [] 0 p lv av h F) w → Calls Tryz.prog 52 [.pointer (some ⟨mb, 0, none⟩), .agg (partC x).toArray].toArray w (fun e w' => ∃ v, e = .returned v ∧ ∃ I' H', (Le I I' ∧ XPost mb p F r v I' H') ∧ St w I' H' w')
/-- what the call does with the host's state -/
def InsOk (x : PE × List UInt8) (I0 : Look) (mb : Nat) (p : HP) (h : Hx) (r : XR) : Prop := ∀ (I : Look) (lv av : Value) (F : List HA) (w0 w : World), Le I0 I → EnvI I → HostI I p lv h → St w0 I (makH mb [] 0 p lv av h F) w → Calls Tryz.prog 77 [.pointer (some ⟨mb, 0, none⟩), .agg (partC x.1).toArray, str x.2].toArray w (fun e w' => ∃ v, e = .returned v ∧ ∃ I' H', (Le I I' ∧ XPost mb p F r v I' H') ∧ St w I' H' w')
/-- what the call does with the host's state -/
def AriOk (x : PE) (I0 : Look) (mb : Nat) (p : HP) (h : Hx) (r : XR) : Prop := ∀ (I : Look) (lv av : Value) (F : List HA) (w0 w : World), Le I0 I → EnvI I → HostI I p lv h → St w0 I (makH mb [] 0 p lv av h F) w → Calls Tryz.prog 53 [.pointer (some ⟨mb, 0, none⟩), .agg (partC x).toArray].toArray w (fun e w' => ∃ v, e = .returned v ∧ ∃ I' H', (Le I I' ∧ XPost mb p F r v I' H') ∧ St w I' H' w')
/-- what the call does with the host's state -/
def PartOk (x : PE × Bool) (I0 : Look) (mb : Nat) (p : HP) (h : Hx) (r : XR) : Prop := ∀ (I : Look) (lv av : Value) (F : List HA) (w0 w : World), Le I0 I → EnvI I → HostI I p lv h → St w0 I (makH mb [] 0 p lv av h F) w → Calls Tryz.prog 38 [.pointer (some ⟨mb, 0, none⟩), .agg (partC x.1).toArray, .bool x.2].toArray w (fun e w' => ∃ v, e = .returned v ∧ ∃ I' H', (Le I I' ∧ XPost mb p F r v I' H') ∧ St w I' H' w')
/-- what the call does with the host's state -/
def PartsOk (x : Value × Bool) (I0 : Look) (mb : Nat) (p : HP) (h : Hx) (r : XR) : Prop := ∀ (I : Look) (lv av : Value) (F : List HA) (w0 w : World), Le I0 I → EnvI I → HostI I p lv h → St w0 I (makH mb [] 0 p lv av h F) w → Calls Tryz.prog 22 [.pointer (some ⟨mb, 0, none⟩), x.1, .bool x.2].toArray w (fun e w' => ∃ v, e = .returned v ∧ ∃ I' H', (Le I I' ∧ XPost mb p F r v I' H') ∧ St w I' H' w')
theorem take_min1 (l : List UInt8) : l.take (min (1 : Int) (l.length : Int)).toNat = l.take 1 := by
 cases l with
 | nil => rfl
 | cons a l => rw [Int.min_eq_left (by simp; omega)]; rfl
theorem nilX {I : Look} : PxR I nilV [] := sl_nil (fun _ h => by cases h)
theorem argL_len (q : Bool) (l : List (List UInt8)) (i : Nat) : (argL q l i).length ≤ 2 * i := by
 induction i with
 | zero => exact Nat.le_refl _
 | succ i ih =>
  rw [argL_succ, List.length_append]
  have : (argAt q l i).length ≤ 2 := by unfold argAt wholeX; split <;> simp
  omega
theorem args_calls (x : PE) (hw1 : One x.wv) (mb : Nat) (p : HP) (h : Hx) (hB : HB h) (I : Look) (lv av : Value) (F : List HA) (w0 w : World) (hi : HostI I p lv h) (hw0 : St w0 I (makH mb [] 0 p lv av h F) w) : Calls Tryz.prog 70 [.pointer (some ⟨mb, 0, none⟩), .agg (partC x).toArray].toArray w (fun e w' => ∃ v, e = .returned v ∧ ∃ I' H', (Le I I' ∧ H' = makH mb [] 0 p lv av h F ∧ PxR I' v (argsX h x.text x.q)) ∧ St w I' H' w') := by
 have hal := hi.an
 refine enter Tryz.func70 rfl Tryz.ntmps70 rfl (hw0.self) (tr (le rfl (e_box rfl rfl rfl) ?_)); rintro _ _ _ ⟨b3, rfl, rfl, rfl⟩; refine lrun rfl (tr (l_run 3 rfl (lq rfl ((by exact q_ld rfl rfl (by rfl))) ?_))); refine le rfl (eff_inv rfl rfl rfl meth_Args Tryz.func191 (by kernel_rfl) rfl (fun w hw => hostArgs_calls p lv av h I hi _ _ w (pick_host hw))) ?_; rintro v16 J16 _ ⟨hJ16, rfl, hsl⟩; refine lrun rfl (t_seq (tq (s_run 1 rfl (sq rfl ((by exact q_ld rfl rfl (by rfl))) ?_)))); refine sq rfl (q_eql_str rfl rfl rfl) (s_run 1 rfl ?_)
 refine s_and2 2 3 20 23 22 _ _ rfl rfl rfl rfl rfl rfl (fun h23 => by
   simp at h23
   refine s_runG 1 rfl (sg rfl ((by exact q_ld rfl rfl (by rfl))) ?_); exact s_val rfl
  ) (wanted_n rfl) rfl rfl rfl ?_
 refine sdn (t_cond rfl (fun hc0 => ?_) (fun hc0 => ?_))
 ·rw [Bool.and_eq_true, decide_eq_true_eq] at hc0
  have hr : argsX h x.text x.q = wholeX (Lib.join h.args (betX h)) true := by unfold argsX; rw [if_pos hc0]
  refine trun rfl (t_cutE (ι := List UInt8) (fun zz => zz = betX h) (fun zz => [(6, str zz)]) [(0, _), (1, _), (3, _), (4, _), (5, _), (23, _)] (fun zz => J16) (fun zz => (row b3 120 (partC x) :: makH mb [] 0 p lv av h F)) (sub_rfl rfl) ?_ ?_)
  ·refine tr (l_run 3 rfl (lq rfl ((by exact q_ld rfl rfl (by rfl))) ?_)); refine lq rfl (quiet_inv rfl rfl rfl meth_Param Tryz.func193 (by kernel_rfl) rfl ((fun w hw => hostParam_pure p lv av h ifsN w (by decide) (hostW_of (hi.mono hJ16) hw)))) ?_; refine lrun rfl (trun rfl (t_cond rfl (fun hc1 => ?_) (fun hc1 => ?_)))
   ·refine t_region (l_run 2 rfl (lq rfl (q_len_str rfl un9 rfl) (lq rfl (q_min rfl rfl rfl) (lq rfl (q_slice_str_to rfl un9 rfl rfl (by omega)) ?_)))); refine l_runA rfl (n_cut ((parX h ifsN).1.take (min (1 : Int) ((parX h ifsN).1.length : Int)).toNat) ?_ (sub_rfl rfl) (sub_rfl rfl) (fun _ h => by dsimp only; exact subC_st h))
    ·unfold betX; rw [if_pos hc1, take_min1]
   ·refine t_skip (n_cut ([32]) ?_ (sub_rfl rfl) (sub_rfl rfl) (fun _ h => by dsimp only; exact subC_st h))
    ·unfold betX; rw [if_neg (by rw [hc1]; simp)]
  rintro sep hsep; dsimp only at *; refine tr (l_run 2 rfl (lq rfl (qc rfl rfl rfl ((fun w hw => xjoin_pure v16 h.args sep w (by omega) (hsl.mono hw.le) (by rw [hsep]; have := hB.aj (betX h) (betX_len h); omega)))) ?_)); refine lec rfl rfl rfl rfl (fun w hw => whole_calls (Lib.join h.args sep) true _ _ _ w hw) ?_; rintro v41 J41 _ ⟨hJ41, rfl, hpx⟩; refine lrun rfl (tret (n_ret1 rfl rfl (fun w' hw => ?_))); rw [hr, ← hsep]; exact ⟨_, rfl, J41, _, ⟨hJ16.trans hJ41, rfl, hpx⟩, subC_st hw⟩
 ·have hr : argsX h x.text x.q = argL x.q h.args h.args.length := by unfold argsX; rw [if_neg (fun h9 => by rw [decide_eq_true h9.1, h9.2] at hc0; cases hc0)]
  refine tskip (trun rfl (t_seq (tr (l_run 1 rfl ?_)))); refine lq rfl ((by exact q_len rfl un23 rfl (Sl.lenOf hsl (List.length_map _)))) ?_; refine lrun rfl (t_block (t_loopE (ι := Nat × Value × Look) (fun zz => zz.1 ≤ h.args.length ∧ Le J16 zz.2.2) (fun zz => h.args.length - zz.1) (fun zz => [(44, .int .i64 (zz.1 : Int)), (9, zz.2.1)]) [(0, _), (1, _), (3, _), (4, _), (5, _), (23, _), (42, _), (43, _)] (fun zz => zz.2.2) (fun zz => (tvec 84 4 pxC zz.2.1 (argL x.q h.args zz.1) :: row b3 120 (partC x) :: makH mb [] 0 p lv av h F)) (0, .slice none 0 0, J16) ?_ (sub_rfl rfl) (sub_rfl rfl) (fun _ k => by dsimp only; rw [show argL x.q h.args 0 = [] from rfl]; exact subC_st (st_nilT 84 4 pxC k)) ?_))
  ·dsimp only; exact ⟨Nat.zero_le _, Le.refl _⟩
  rintro ⟨i, vo, J⟩ ⟨hil0, hJ⟩; dsimp only at *; refine trun rfl (t_seq (t_cond rfl (fun hc2 => ?_) (fun hc2 => ?_)))
  ·simp at hc2
   have hil : i < h.args.length := by omega
   refine tskip (t_seq (t_block (tr (l_run 1 rfl ?_)))); refine lq rfl ((by exact q_indexAddrN rfl un23 ti9 rfl rfl (Sl.shape hsl (List.length_map _)) (by omega))) ?_; refine lq rfl ((by exact q_ldr rfl rfl (rd_sv (i := i) (hsl.mono hJ) (by omega)))) ?_; refine lrun rfl (t_cutE (ι := Value × List Px) (fun zz => zz.2 = argL x.q h.args i ++ (if 0 < i then [brk] else [])) (fun zz => [(9, zz.1)]) [(44, _), (0, _), (1, _), (3, _), (4, _), (5, _), (23, _), (42, _), (43, _), (45, _), (10, _), (11, _)] (fun zz => J) (fun zz => (tvec 84 4 pxC zz.1 zz.2 :: row b3 120 (partC x) :: makH mb [] 0 p lv av h F)) (sub_rfl rfl) ?_ ?_)
   ·refine trun rfl (t_cond rfl (fun hc3 => ?_) (fun hc3 => ?_))
    ·simp at hc3
     refine t_region (l_run 1 rfl (lq rfl (q_build (pl := [(_, _), (_, _)]) (cs := (pxC brk).toArray) rfl un84 ti84 ⟨rfl, ⟨_, _, ti82⟩, rfl, ⟨_, _, ti4⟩, trivial⟩ rfl rfl) (le rfl (e_buildSlice1 rfl un43 ti84 rfl rfl rfl (by rfl) rfl) ?_))); rintro _ _ _ ⟨b53, rfl, rfl, rfl⟩; refine le rfl (e_appendT (f := pxC) (c := brk) rfl un43 ti84 rfl rfl rfl rfl rfl rfl rfl (pxC_ones _) (by have := argL_len x.q h.args i; simp only [maxLen]; omega) (by have := argL_len x.q h.args i; omega)) ?_; rintro v54 _ _ ⟨rfl, rfl⟩; refine l_runA rfl (n_cut ((v54, argL x.q h.args i ++ [brk])) ?_ (sub_rfl rfl) (sub_rfl rfl) (fun _ h => by dsimp only; exact subC_st h))
     ·dsimp only; rw [if_pos (by omega)]
    ·simp at hc3
     refine t_skip (n_cut ((vo, argL x.q h.args i)) ?_ (sub_rfl rfl) (sub_rfl rfl) (fun _ h => by dsimp only; exact subC_st h))
     ·dsimp only; rw [if_neg (by omega), List.append_nil]
   rintro ⟨vo1, acc1⟩ hacc; dsimp only at *
   have hal2 := argL_len x.q h.args i
   have hacl : acc1.length ≤ 2 * i + 1 := by rw [hacc, List.length_append]; split <;> simp <;> omega
   refine t_region (l_run 3 rfl (lq rfl ((by exact q_ld rfl rfl (by rfl))) ?_)); refine lec rfl rfl rfl rfl (fun w hw => whole_calls (nth h.args i []) x.q _ _ _ w hw) ?_; rintro v59 J59 _ ⟨hJ59, rfl, hpx⟩; refine le rfl (e_appendSl (f := pxC) (l := acc1) (ls := wholeX (nth h.args i []) x.q) rfl un43 ti84 rfl rfl rfl rfl (hpx) rfl (fun _ => rfl) pxC_ones (by (try simp only [maxLen, wholeX, List.length_singleton]); omega) (by (try simp only [wholeX, List.length_singleton]); omega)) ?_; rintro v60 _ _ ⟨rfl, rfl⟩; refine l_runA rfl (n_block (n_then (t_region (lq rfl (q_add64 rfl rfl rfl (by omega)) ?_)))); refine l_runA rfl (n_roundE ((i + 1, v60, J59)) ?_ ?_ (sub_rfl rfl) (sub_rfl rfl) (fun _ h => by dsimp only; rw [argL_succ, argAt, ← List.append_assoc, ← hacc]; exact subC_st h))
   ·dsimp only; exact ⟨(show i + 1 ≤ _ by omega), hJ.trans hJ59⟩
   ·dsimp only
    show h.args.length - (i + 1) < h.args.length - i
    omega
  ·simp at hc2
   have hil : i = h.args.length := by omega
   rw [hil]; refine t_exit (n_exit_then (n_exit_then (n_exit_block (n_then (t_seq (t_freezeT (f := pxC) (l := argL x.q h.args h.args.length) vo (fun _ => rfl) (fun Jf hJf hvo => ?_))))))); refine t_region (lrun rfl (t_ret (n_ret1 rfl rfl (fun w' hw => ?_)))); rw [hr]; exact ⟨_, rfl, Jf, _, ⟨hJ16.trans (hJ.trans hJf), rfl, hvo⟩, subC_st hw⟩
end Go.Tri

/-
 What stands in the place of a parameter: by its operator.
-/
namespace Go.Tri
open Go.Proofs Go.RowKit
set_option maxRecDepth 10000
theorem isX_t {h : Hx} {t op : List UInt8} (hs : stB op [58] = true) : ((valX h t).2 && decide ((valX h t).1 ≠ [])) = isX h t op := by unfold isX; rw [hs]; simp
theorem isX_f {h : Hx} {t op : List UInt8} (hs : stB op [58] = false) : (valX h t).2 = isX h t op := by unfold isX; rw [hs]; simp
theorem valX_many {h : Hx} {t : List UInt8} (hm : manyB t = true) : valX h t = (Lib.join h.args [32], decide (h.args ≠ [])) := by unfold valX; rw [if_pos hm]
theorem valX_one {h : Hx} {t : List UInt8} (hm : manyB t = false) : valX h t = parX h t := by unfold valX; rw [if_neg (by rw [hm]; simp)]
theorem some_args {l : List (List UInt8)} : decide ((0 : Int) < (l.length : Int)) = decide (l ≠ []) := by
 cases l <;> simp
theorem ins_calls (x : PE) (hw1 : One x.wv) (op : List UInt8) (I0 : Look) (mb : Nat) (p : HP) (h : Hx) (r0 : XR) (hT : PartsOk (x.wv, true) I0 mb p h r0) (hS : Small r0) (hxt : x.text.length ≤ 1000000000) : InsOk (x, op) I0 mb p h (insX x.text op x.q r0) := by
 intro I lv av F w0 w hI0 hG hi hw0; refine enter Tryz.func77 rfl Tryz.ntmps77 rfl (hw0.self) (tr (le rfl (e_box rfl rfl rfl) ?_)); rintro _ _ _ ⟨b4, rfl, rfl, rfl⟩; refine lrun rfl (tr (l_run 2 rfl (lq rfl (q_ld rfl rfl (by rfl)) ?_))); refine lec rfl rfl rfl rfl (fun w hw => hT I lv av (row b4 120 (partC x) :: F) _ w hI0 hG hi (pick_mak hw)) ?_; rintro v13 J13 _ ⟨hJ13, e, m, L, h2, lv2, av2, rfl, hi2, hpx, hr⟩; refine lrun rfl (t_seq (tr (l_run 3 rfl (lq rfl (q_ld rfl rfl (by rfl)) ?_)))); refine lrun rfl (t_cond rfl (fun hc0 => ?_) (fun hc0 => ?_))
 ·simp at hc0
  have he : e ≠ 0 := by omega
  obtain ⟨rfl, hre⟩ := hr.bad he; subst hre; refine trun rfl (tret (n_ret1 rfl rfl (fun w' hw => ?_))); exact ⟨_, rfl, J13, makH mb m e p lv2 av2 h2 F, ⟨hJ13, e, m, [], h2, lv2, av2, rfl, hi2, nilX, ⟨rfl, he, rfl, rfl, rfl⟩⟩, subC_st hw⟩
 ·simp at hc0
  have he : e = 0 := by omega
  subst he; obtain ⟨rfl, hre⟩ := hr.ok rfl; subst hre; obtain ⟨hS1, hS2⟩ := hS L h2 rfl; refine tskip (t_seq (trun rfl (t_block (tr (lq rfl (q_eql_str rfl rfl rfl) (lrun rfl (t_cond rfl (fun hc1 => ?_) (fun hc1 => ?_))))))))
  ·have hop := of_decide_eq_true hc1
   refine t_seq (tr (l_run 1 rfl (lq rfl (q_ld rfl rfl (by rfl)) ?_))); refine lq rfl (qc rfl rfl rfl ((fun w _ => name_pure x.text w (by omega)))) ?_; refine lrun rfl (t_cond rfl (fun hc2 => ?_) (fun hc2 => ?_))
   ·have hnm : nameB x.text = false := by rw [Bool.not_eq_true'] at hc2; exact hc2
    refine tr (l_run 1 rfl (lec rfl rfl rfl rfl (fun w hw => mfail_calls mb p [] (22) _ _ _ w (picks_st1 (row mb 78 (mkC p [] 0)) hw)) ?_)); rintro _ _ _ ⟨rfl, rfl, rfl⟩; refine lrun rfl (tret (n_ret1 rfl rfl (fun w' hw => ?_))); exact ⟨_, rfl, J13, makH mb [] 22 p lv2 av2 h2 F, ⟨hJ13, 22, [], [], h2, lv2, av2, rfl, hi2, nilX, by rw [insX_name hop hnm]; exact ⟨rfl, by decide, rfl, rfl, rfl⟩⟩, subC_st hw⟩
   ·have hnm : nameB x.text = true := by rw [Bool.not_eq_false'] at hc2; exact hc2
    refine tskip (tr (l_run 1 rfl (lq rfl (qc rfl rfl rfl ((fun w hw => xtext_pure v13 L w (by omega) (by omega) (hpx.mono hw.le)))) ?_))); refine lrun rfl (t_seq (t_seq (t_draw [7] [] [row b4 120 (partC x), row mb 78 (mkC p [] 0)] mo (by kernel_rfl) (fun _ _ _ _ _ h => h) (r_run [0, 1, 2] (by kernel_rfl) rfl rfl rfl (rq1 3 (by kernel_rfl) rfl rfl (q_ld rfl rfl (by rfl)) ?_))))); refine r_run [4] (by kernel_rfl) rfl rfl rfl (rq1 5 (by kernel_rfl) rfl rfl (q_ld rfl rfl (by rfl)) ?_); refine r_run [6] (by kernel_rfl) rfl rfl rfl (re 7 (by kernel_rfl) rfl (Le.refl _) rfl (eff_inv rfl rfl rfl meth_Set Tryz.func195 (by kernel_rfl) rfl (fun w hw => hostSet_calls p lv2 av2 h2 x.text (textX L) hxt _ hi2 _ _ w (pick_host hw))) ?_); rintro _ J37 _ ⟨hJ37, rfl, lv3, rfl, hi3⟩; refine ⟨hJ37, .inr SubC.sub, ?_⟩; refine r_run [8] (by kernel_rfl) rfl rfl rfl (r_end (by kernel_rfl) (n_then (trun rfl (t_cond rfl (fun hc3 => ?_) (fun hc3 => ?_)))))
    ·simp at hc3
     have he3 : (setN h2.vars x.text (textX L)).1 ≠ 0 := by omega
     rw [Hx.put_keep he3] at hi3; refine tr (l_run 2 rfl (lec rfl rfl rfl rfl (fun w hw => mfail_calls mb p [] ((setN h2.vars x.text (textX L)).1) _ _ _ w (picks_st1 (row mb 78 (mkC p [] 0)) hw)) ?_)); rintro _ _ _ ⟨rfl, rfl, rfl⟩; refine lrun rfl (tret (n_ret1 rfl rfl (fun w' hw => ?_))); exact ⟨_, rfl, J37, makH mb [] (setN h2.vars x.text (textX L)).1 p lv3 av2 h2 F, ⟨hJ13.trans hJ37, (setN h2.vars x.text (textX L)).1, [], [], h2, lv3, av2, rfl, hi3, nilX, by rw [insX_err hop hnm he3]; exact ⟨rfl, he3, rfl, rfl, rfl⟩⟩, subC_st hw⟩
    ·simp at hc3
     have he3 : (setN h2.vars x.text (textX L)).1 = 0 := by omega
     refine tskip (tr (l_run 2 rfl (lq rfl (q_ld rfl rfl (by rfl)) ?_))); refine lec rfl rfl rfl rfl (fun w hw => whole_calls (textX L) x.q _ _ _ w hw) ?_; rintro v46 J46 _ ⟨hJ46, rfl, hpx46⟩; refine lrun rfl (tret (n_ret1 rfl rfl (fun w' hw => ?_))); exact ⟨_, rfl, J46, makH mb [] 0 p lv3 av2 (h2.put (setN h2.vars x.text (textX L)).2) F, ⟨hJ13.trans (hJ37.trans hJ46), 0, [], _, (h2.put (setN h2.vars x.text (textX L)).2), lv3, av2, rfl, hi3.mono hJ46, hpx46, by rw [insX_set hop hnm he3]; exact ⟨rfl, rfl, rfl, rfl⟩⟩, subC_st hw⟩
  ·have hop := of_decide_eq_false hc1
   refine tr (lq rfl (q_eql_str rfl rfl rfl) (lrun rfl (t_cond rfl (fun hc4 => ?_) (fun hc4 => ?_))))
   ·have hop2 := of_decide_eq_true hc4
    refine tr (l_run 2 rfl (lq rfl (qc rfl rfl rfl ((fun w hw => xtext_pure v13 L w (by omega) (by omega) (hpx.mono hw.le)))) ?_)); refine l_run 2 rfl ?_; refine l_e0 rfl rfl (e_storeS rfl ti9 rfl rfl (by exact ⟨rfl, rfl⟩) rfl (by rfl)) ?_; rintro _ _ _ ⟨rfl, rfl⟩; refine l_heap (H' := row mb 78 (mkC p (textX L) 0) :: _) ?_ (fun _ h => h); refine lnr1 (l_run 1 rfl (lec rfl rfl rfl rfl (fun w hw => mfail_calls mb p (textX L) (62) _ _ _ w (picks_st1 (row mb 78 (mkC p (textX L) 0)) hw)) ?_)); rintro _ _ _ ⟨rfl, rfl, rfl⟩; refine lrun rfl (tret (n_ret1 rfl rfl (fun w' hw => ?_))); exact ⟨_, rfl, J13, makH mb (textX L) 62 p lv2 av2 h2 F, ⟨hJ13, 62, (textX L), [], h2, lv2, av2, rfl, hi2, nilX, by rw [insX_msg hop2]; exact ⟨rfl, by decide, rfl, rfl, rfl⟩⟩, subC_st hw⟩
   ·have hop2 := of_decide_eq_false hc4
    refine t_skip (n_block (n_then (t_seq (tr (l_run 1 rfl ?_))))); refine lq rfl ((by exact q_len rfl un43 rfl (Sl.lenOf hpx (List.length_map _)))) ?_; refine lrun rfl (t_cond rfl (fun hc5 => ?_) (fun hc5 => ?_))
    ·simp at hc5
     have hL0 : L = [] := by first | exact hc5 | exact List.eq_nil_of_length_eq_zero (by omega)
     refine tr (l_run 1 rfl (lq rfl (q_ld rfl rfl (by rfl)) ?_)); refine lec rfl rfl rfl rfl (fun w hw => whole_calls [] x.q _ _ _ w hw) ?_; rintro v61 J61 _ ⟨hJ61, rfl, hpx61⟩; refine lrun rfl (tret (n_ret1 rfl rfl (fun w' hw => ?_))); exact ⟨_, rfl, J61, makH mb [] 0 p lv2 av2 h2 F, ⟨hJ13.trans hJ61, 0, [], _, h2, lv2, av2, rfl, hi2.mono hJ61, hpx61, by rw [insX_nil hop hop2 hL0]; exact ⟨rfl, rfl, rfl, rfl⟩⟩, subC_st hw⟩
    ·simp at hc5
     have hL0 : L ≠ [] := fun h9 => by subst h9; simp at hc5
     refine tskip (trun rfl (t_ret (n_ret1 rfl rfl (fun w' hw => ?_)))); exact ⟨_, rfl, J13, makH mb [] 0 p lv2 av2 h2 F, ⟨hJ13, 0, [], L, h2, lv2, av2, rfl, hi2, hpx, by rw [insX_l hop hop2 hL0]; exact ⟨rfl, rfl, rfl, rfl⟩⟩, subC_st hw⟩
theorem param_calls (x : PE) (hw1 : One x.wv) (wi : Bool) (I0 : Look) (mb : Nat) (p : HP) (h : Hx) (hB : HB h) (hF : PartsOk (x.wv, false) I0 mb p h (partsX false h [] x.word)) (hSF : Small (partsX false h [] x.word)) (hT : PartsOk (x.wv, true) I0 mb p h (partsX true h [] x.word)) (hST : Small (partsX true h [] x.word)) (hxt : x.text.length ≤ 1000000000) : ParamOk x I0 mb p h (partX wi h (.mk 2 x.text x.op x.word x.q)) := by
 intro I lv av F w0 w hI0 hG hi hw0
 have hal := hi.an
 have hvl := valX_le hB x.text
 have hlx := lenX_le hB x.text
 refine enter Tryz.func52 rfl Tryz.ntmps52 rfl (hw0.self) (tr (le rfl (e_box rfl rfl rfl) ?_)); rintro _ _ _ ⟨b3, rfl, rfl, rfl⟩; refine lrun rfl (t_seq (tq (s_run 1 rfl (sq rfl (q_ld rfl rfl (by rfl)) ?_)))); refine sq rfl (qc rfl rfl rfl ((fun w _ => many_pure x.text w))) (s_run 1 rfl ?_)
 refine s_and2 3 3 14 18 17 _ _ rfl rfl rfl rfl rfl rfl (fun h18 => by
   refine s_runG 1 rfl (sg rfl (q_ld rfl rfl (by rfl)) ?_); refine sg rfl (q_eql_str rfl rfl rfl) ?_; exact s_val rfl
  ) (wanted_n rfl) rfl rfl rfl ?_
 refine sdn (t_cond rfl (fun hc0 => ?_) (fun hc0 => ?_))
 ·rw [Bool.and_eq_true, decide_eq_true_eq] at hc0; refine tr (l_run 1 rfl (lq rfl (q_load_rowA rfl un120 ti120 rfl rfl rfl) (lec rfl rfl rfl rfl (fun w hw => args_calls x hw1 mb p h hB I lv av (row b3 120 (partC x) :: F) _ w hi (pick_mak hw)) ?_))); rintro v21 J21 _ ⟨hJ21, rfl, hpx21⟩; refine lrun rfl (tret (n_ret1 rfl rfl (fun w' hw => ?_))); exact ⟨_, rfl, J21, makH mb [] 0 p lv av h F, ⟨hJ21, 0, [], _, h, lv, av, rfl, hi.mono hJ21, hpx21, by rw [parA hc0.1 hc0.2]; exact ⟨rfl, rfl, rfl, rfl⟩⟩, subC_st hw⟩
 ·have h0 : ∀ _ : x.op = [], manyB x.text = false := fun h9 => by rw [decide_eq_true h9, Bool.and_true] at hc0; exact hc0
  refine tskip (trun rfl (t_cutE (ι := Look) (fun zz => Le I zz) (fun zz => [(5, str (valX h x.text).1), (6, .bool (valX h x.text).2)]) [(0, _), (1, _), (3, _), (4, _), (18, _)] (fun zz => zz) (fun zz => (row b3 120 (partC x) :: makH mb [] 0 p lv av h F)) (sub_rfl rfl) ?_ ?_))
  ·refine tr (l_run 1 rfl (lq rfl (q_ld rfl rfl (by rfl)) ?_)); refine lq rfl (qc rfl rfl rfl ((fun w _ => many_pure x.text w))) (ln (t_cond rfl (fun hc1 => ?_) (fun hc1 => ?_)))
   ·refine tr (l_run 3 rfl (lq rfl (q_ld rfl rfl (by rfl)) ?_)); refine le rfl (eff_inv rfl rfl rfl meth_Args Tryz.func191 (by kernel_rfl) rfl (fun w hw => hostArgs_calls p lv av h _ hi _ _ w (pick_host hw))) ?_; rintro v29 J29 _ ⟨hJ29, rfl, hsl29⟩; refine lrun rfl (t_region (l_run 1 rfl (lq rfl (qc rfl rfl rfl ((fun w hw => xjoin_pure v29 h.args [32] w (by omega) (hsl29.mono hw.le) (by have := hB.aj [32] (by decide); omega)))) ?_))); refine l_run 1 rfl ?_; refine lq rfl ((by exact q_len rfl un23 rfl (Sl.lenOf hsl29 (List.length_map _)))) ?_; refine l_runA rfl (n_cut (J29) ?_ (sub_cons' rfl (by rw [valX_many hc1]) (sub_cons' rfl (by rw [valX_many hc1, some_args]) (sub_nil))) (sub_rfl rfl) (fun _ h => by dsimp only; exact subC_st h))
    ·exact hJ29
   ·refine t_qdraw mo (by kernel_rfl) (fun _ _ _ _ _ h => h) (s_run 3 rfl (sq rfl (q_ld rfl rfl (by rfl)) ?_)); refine s_run 1 rfl (sq rfl (q_ld rfl rfl (by rfl)) ?_); refine sq rfl (quiet_inv rfl rfl rfl meth_Param Tryz.func193 (by kernel_rfl) rfl ((fun w hw => hostParam_pure p lv av h x.text w hxt (hostW_of hi hw)))) (s_run 5 rfl (s_done (n_cut (I) ?_ (sub_cons' rfl (by rw [valX_one hc1]; try rfl) (sub_cons' rfl (by rw [valX_one hc1]; try rfl) (sub_nil))) (sub_rfl rfl) (fun _ h => by dsimp only; exact subC_st h))))
    ·exact Le.refl _
  rintro J hJl; refine t_seq (tr (l_run 1 rfl (lq rfl (q_ld rfl rfl (by rfl)) ?_))); refine ln (t_block (tr (lq rfl (q_eql_str rfl rfl rfl) (lrun rfl (t_cond rfl (fun hc2 => ?_) (fun hc2 => ?_))))))
  ·have hop0 := of_decide_eq_true hc2
   refine tr (l_run 2 rfl (lq rfl (q_ld rfl rfl (by rfl)) ?_)); refine lec rfl rfl rfl rfl (fun w hw => whole_calls (valX h x.text).1 x.q _ _ _ w hw) ?_; rintro v52 J52 _ ⟨hJ52, rfl, hpx52⟩; refine lrun rfl (tret (n_ret1 rfl rfl (fun w' hw => ?_))); exact ⟨_, rfl, J52, makH mb [] 0 p lv av h F, ⟨hJl.trans hJ52, 0, [], _, h, lv, av, rfl, hi.mono (hJl.trans hJ52), hpx52, by rw [parV (h0 hop0) hop0]; exact ⟨rfl, rfl, rfl, rfl⟩⟩, subC_st hw⟩
  ·have hop0 := of_decide_eq_false hc2
   refine tr (lq rfl (q_eql_str rfl rfl rfl) (lrun rfl (t_cond rfl (fun hc3 => ?_) (fun hc3 => ?_))))
   ·have hopl := of_decide_eq_true hc3
    refine tr (l_run 1 rfl (lq rfl (q_len_str rfl un9 rfl) (lrun rfl (t_cutE (ι := Look) (fun zz => Le J zz) (fun zz => [(8, .int .i64 (lenX h x.text))]) [(5, _), (6, _), (0, _), (1, _), (3, _), (4, _), (18, _), (46, _), (47, _), (53, _)] (fun zz => zz) (fun zz => (row b3 120 (partC x) :: makH mb [] 0 p lv av h F)) (sub_rfl rfl) ?_ ?_))))
    ·refine tr (l_run 1 rfl (lq rfl (q_ld rfl rfl (by rfl)) ?_)); refine lq rfl (qc rfl rfl rfl ((fun w _ => many_pure x.text w))) (ln (t_cond rfl (fun hc4 => ?_) (fun hc4 => ?_)))
     ·refine t_region (l_run 3 rfl (lq rfl (q_ld rfl rfl (by rfl)) ?_)); refine le rfl (eff_inv rfl rfl rfl meth_Args Tryz.func191 (by kernel_rfl) rfl (fun w hw => hostArgs_calls p lv av h _ (hi.mono hJl) _ _ w (pick_host hw))) ?_; rintro v64 J64 _ ⟨hJ64, rfl, hsl64⟩; refine lq rfl ((by exact q_len rfl un23 rfl (Sl.lenOf hsl64 (List.length_map _)))) ?_; refine l_runA rfl (n_cut (J64) ?_ (sub_cons' rfl (by unfold lenX; rw [if_pos hc4]) (sub_nil)) (sub_rfl rfl) (fun _ h => by dsimp only; exact subC_st h))
      ·exact hJ64
     ·refine t_skip (n_cut (J) ?_ (sub_cons' rfl (by unfold lenX; rw [if_neg (by rw [hc4]; simp)]) (sub_nil)) (sub_rfl rfl) (fun _ h => by dsimp only; exact subC_st h))
      ·exact Le.refl _
    rintro J8 hJ8; dsimp only at *
    have hJl := hJl.trans hJ8
    refine t_seq (t_draw [4] [] [row b3 120 (partC x)] mo (by kernel_rfl) (fun _ _ _ _ _ h => h) (r_run [0] (by kernel_rfl) rfl rfl rfl (rq1 1 (by kernel_rfl) rfl rfl (qc rfl rfl rfl ((fun w hw => decimal_pure (lenX h x.text) w (by omega) ((hG.mono hJl).mono hw.le).gw))) ?_))); refine r_run [2] (by kernel_rfl) rfl rfl rfl (rq1 3 (by kernel_rfl) rfl rfl (q_ld rfl rfl (by rfl)) ?_); refine re 4 (by kernel_rfl) rfl (Le.refl _) rfl (ec rfl rfl rfl (fun w hw => whole_calls (Lib.itoa (lenX h x.text)) x.q _ _ _ w hw)) ?_; rintro v70 J70 _ ⟨hJ70, rfl, hpx70⟩; refine ⟨hJ70, .inr SubC.sub, ?_⟩; refine r_run [5] (by kernel_rfl) rfl rfl rfl (r_end (by kernel_rfl) (n_then (tret (n_ret1 rfl rfl (fun w' hw => ?_))))); exact ⟨_, rfl, J70, makH mb [] 0 p lv av h F, ⟨hJl.trans hJ70, 0, [], _, h, lv, av, rfl, hi.mono (hJl.trans hJ70), hpx70, by rw [parL hopl]; exact ⟨rfl, rfl, rfl, rfl⟩⟩, subC_st hw⟩
   ·have hopl := of_decide_eq_false hc3
    refine t_cutE (ι := Unit) (fun _ => True) (fun _ => [(71, .bool (decide (x.op ∈ cutOps)))]) [(5, _), (6, _), (0, _), (1, _), (3, _), (4, _), (18, _), (46, _), (47, _), (53, _)] (fun _ => J) (fun _ => (row b3 120 (partC x) :: makH mb [] 0 p lv av h F)) (sub_rfl rfl) ?_ ?_
    ·refine tr (lq rfl (q_eql_str rfl rfl rfl) (lrun rfl (t_cond rfl (fun hc5 => ?_) (fun hc5 => ?_))))
     ·refine t_skip (n_cut (()) ?_ (sub_cons' rfl (congrArg Value.bool (by simp_all [cutOps])) (sub_nil)) (sub_rfl rfl) (fun _ h => by dsimp only; exact subC_st h))
      ·trivial
     ·refine tr (lq rfl (q_eql_str rfl rfl rfl) (lrun rfl (t_cond rfl (fun hc6 => ?_) (fun hc6 => ?_))))
      ·refine t_skip (n_cut (()) ?_ (sub_cons' rfl (congrArg Value.bool (by simp_all [cutOps])) (sub_nil)) (sub_rfl rfl) (fun _ h => by dsimp only; exact subC_st h))
       ·trivial
      ·refine tr (lq rfl (q_eql_str rfl rfl rfl) (lrun rfl (t_cond rfl (fun hc7 => ?_) (fun hc7 => ?_))))
       ·refine t_skip (n_cut (()) ?_ (sub_cons' rfl (congrArg Value.bool (by simp_all [cutOps])) (sub_nil)) (sub_rfl rfl) (fun _ h => by dsimp only; exact subC_st h))
        ·trivial
       ·refine t_region (lq rfl (q_eql_str rfl rfl rfl) (l_runA rfl (n_cut (()) ?_ (sub_cons' rfl (congrArg Value.bool (by simp_all [cutOps])) (sub_nil)) (sub_rfl rfl) (fun _ h => by dsimp only; exact subC_st h))))
        ·trivial
    rintro _ _; refine t_cond rfl (fun hc8 => ?_) (fun hc8 => ?_)
    ·have hcut := of_decide_eq_true hc8
     refine t_seq (tr (l_run 1 rfl (lq rfl (q_len_str rfl un9 rfl) (lrun rfl (t_cond rfl (fun hc9 => ?_) (fun hc9 => ?_))))))
     ·simp at hc9
      have h66 : 4096 < (valX h x.text).1.length := by omega
      refine tr (l_run 1 rfl (lec rfl rfl rfl rfl (fun w hw => mfail_calls mb p [] (66) _ _ _ w (picks_st1 (row mb 78 (mkC p [] 0)) hw)) ?_)); rintro _ _ _ ⟨rfl, rfl, rfl⟩; refine lrun rfl (tret (n_ret1 rfl rfl (fun w' hw => ?_))); exact ⟨_, rfl, J, makH mb [] 66 p lv av h F, ⟨hJl, 66, [], [], h, lv, av, rfl, hi.mono hJl, nilX, by rw [parC66 hcut h66]; exact ⟨rfl, by decide, rfl, rfl, rfl⟩⟩, subC_st hw⟩
     ·simp at hc9
      have h66 : ¬ 4096 < (valX h x.text).1.length := by omega
      have hopn : 0 < x.op.length := List.length_pos_iff.2 (cut_ne hcut).1
      refine tskip (tr (l_run 2 rfl (lq rfl (q_ld rfl rfl (by rfl)) ?_))); refine lec rfl rfl rfl rfl (fun w hw => hF J lv av (row b3 120 (partC x) :: F) _ w (hI0.trans hJl) (hG.mono hJl) (hi.mono hJl) (pick_mak hw)) ?_; rintro v84 J84 _ ⟨hJ84, e, m, L, h2, lv2, av2, rfl, hi2, hpx, hr⟩; refine lrun rfl (t_seq (tr (l_run 3 rfl (lq rfl (q_ld rfl rfl (by rfl)) ?_)))); refine lrun rfl (t_cond rfl (fun hc10 => ?_) (fun hc10 => ?_))
      ·simp at hc10
       have he : e ≠ 0 := by omega
       obtain ⟨rfl, hre⟩ := hr.bad he; refine trun rfl (tret (n_ret1 rfl rfl (fun w' hw => ?_))); exact ⟨_, rfl, J84, makH mb m e p lv2 av2 h2 F, ⟨hJl.trans hJ84, e, m, [], h2, lv2, av2, rfl, hi2, nilX, by rw [parC hcut h66, hre]; exact ⟨rfl, he, rfl, rfl, rfl⟩⟩, subC_st hw⟩
      ·simp at hc10
       have he : e = 0 := by omega
       subst he; obtain ⟨rfl, hre⟩ := hr.ok rfl; obtain ⟨hS1, hS2⟩ := hSF L h2 hre; refine tskip (t_seq (t_draw [1, 2, 12, 15] [] [row b3 120 (partC x), row mb 78 (mkC p [] 0)] mo (by kernel_rfl) (fun _ _ _ _ _ h => h) (r_run [0, 3, 4] (by kernel_rfl) rfl rfl rfl (rq0 5 (by kernel_rfl) rfl (Le.refl _) rfl (fun _ hI => q_ld rfl rfl (by rfl)) ?_)))); refine rq0 6 (by kernel_rfl) rfl (Le.refl _) rfl (fun _ hI => (by exact q_index_strN rfl un9 rfl rfl (by omega))) ?_; refine rq0 7 (by kernel_rfl) rfl (Le.refl _) rfl (fun _ hI => q_eql_u8c rfl rfl rfl rfl) (r_run [8] (by kernel_rfl) rfl rfl rfl (rq0 9 (by kernel_rfl) rfl (Le.refl _) rfl (fun _ hI => q_ld rfl rfl (by rfl)) ?_)); refine rq0 10 (by kernel_rfl) rfl (Le.refl _) rfl (fun _ hI => q_len_str rfl un9 rfl) (r_run [11, 13] (by kernel_rfl) rfl rfl rfl (rq0 14 (by kernel_rfl) rfl (Le.refl _) rfl (fun _ hI => q_ld rfl rfl (by rfl)) ?_)); refine re 1 (by kernel_rfl) rfl (Le.refl _) rfl (ec rfl rfl rfl (fun w hw => chars_calls v84 hpx.one _ _ _ w hw)) ?_; rintro _ J91 _ ⟨hJ91, rfl, b91, rfl, hb91⟩; refine ⟨hJ91, .inr SubC.sub, ?_⟩; refine re 2 (by kernel_rfl) rfl (hJ91) rfl (ec rfl rfl rfl (fun w hw => collectChars_calls L v84 b91 _ _ _ w (by omega) (by omega) hb91 (hpx.mono hJ91) hw)) ?_; rintro v92 J92 _ ⟨hJ92, rfl, hch⟩; refine ⟨hJ92, .inr SubC.sub, ?_⟩
       refine re 12 (by kernel_rfl) rfl ((hJ91.trans hJ92)) rfl (e_of_q (qc rfl rfl rfl (fun w hw => cut_pure v92 (charsX L) (valX h x.text).1 _ _ w (by rw [charsX_len]; omega) (by omega) (hch.mono hw.le)))) ?_; rintro _ _ _ ⟨rfl, rfl, rfl⟩; refine ⟨Le.refl _, .inr SubC.sub, ?_⟩; refine re 15 (by kernel_rfl) rfl ((hJ91.trans hJ92)) rfl (ec rfl rfl rfl (fun w hw => whole_calls _ x.q _ _ _ w hw)) ?_; rintro v105 J105 _ ⟨hJ105, rfl, hpx105⟩; refine ⟨hJ105, .inr SubC.sub, ?_⟩; refine r_q0 16 (by kernel_rfl) rfl ((hJ91.trans (hJ92.trans hJ105))) rfl rfl rfl (fun _ hI => q_assign rfl rfl) (r_end (by kernel_rfl) (n_then (tret (n_ret1 rfl rfl (fun w' hw => ?_)))))
       have hl2 : decide ((x.op.length : Int) = 2) = decide (x.op.length = 2) := decide_eq_decide.2 (by omega)
       exact ⟨_, rfl, J105, makH mb [] 0 p lv2 av2 h2 F, ⟨hJl.trans (hJ84.trans (hJ91.trans (hJ92.trans hJ105))), 0, [], _, h2, lv2, av2, rfl, hi2.mono (hJ91.trans (hJ92.trans hJ105)), hpx105, by rw [parC hcut h66, hre]; exact ⟨rfl, rfl, by rw [hl2]; rfl, rfl⟩⟩, subC_st hw⟩
    ·have hcut := of_decide_eq_false hc8
     refine t_skip (n_block (n_then (t_cutE (ι := Unit) (fun _ => True) (fun _ => [(6, .bool (isX h x.text x.op))]) [(71, _), (5, _), (0, _), (1, _), (3, _), (4, _), (18, _), (46, _), (47, _), (53, _)] (fun _ => J) (fun _ => (row b3 120 (partC x) :: makH mb [] 0 p lv av h F)) (sub_rfl rfl) ?_ ?_)))
     ·refine tr (l_run 1 rfl (lq rfl (q_ld rfl rfl (by rfl)) ?_)); refine lq rfl (qc rfl rfl rfl ((fun w _ => hasPrefix_pure x.op [58] w))) (ln (t_cond rfl (fun hc11 => ?_) (fun hc11 => ?_)))
      ·refine t_qreg (s_run 2 rfl ?_)
       refine s_and2 2 1 110 113 112 _ _ rfl rfl rfl rfl rfl rfl (fun h113 => by
         refine s_runG 1 rfl (sg rfl (q_neq_str rfl rfl rfl) ?_); exact s_val rfl
        ) (wanted_n rfl) rfl rfl rfl ?_
       refine s_run 1 rfl (s_done (n_cut (()) ?_ (sub_cons' rfl (congrArg Value.bool (isX_t hc11)) (sub_nil)) (sub_rfl rfl) (fun _ h => by dsimp only; exact subC_st h)))
       ·trivial
      ·refine t_skip (n_cut (()) ?_ (sub_cons' rfl (congrArg Value.bool (isX_f hc11)) (sub_nil)) (sub_rfl rfl) (fun _ h => by dsimp only; exact subC_st h))
       ·trivial
     rintro _ _; refine tr (l_run 1 rfl (lq rfl (q_ld rfl rfl (by rfl)) ?_)); refine lq rfl (qc rfl rfl rfl ((fun w _ => trimPrefix_pure x.op [58] w))) (lrun rfl (t_seq (t_block (tq (s_run 1 rfl (sq rfl (q_eql_str rfl rfl rfl) (s_run 1 rfl ?_)))))))
     refine s_and2 2 2 120 123 122 _ _ rfl rfl rfl rfl rfl rfl (fun h123 => by
       simp at h123
       refine s_runG 2 rfl ?_; exact s_val rfl
      ) (wanted_n rfl) rfl rfl rfl ?_
     refine s_run 1 rfl (sdn (t_cond rfl (fun hc12 => ?_) (fun hc12 => ?_)))
     ·rw [Bool.and_eq_true, decide_eq_true_eq, Bool.not_eq_true'] at hc12; refine tr (l_run 1 rfl (lq rfl (q_ld rfl rfl (by rfl)) ?_)); refine lec rfl rfl rfl rfl (fun w hw => whole_calls [] x.q _ _ _ w hw) ?_; rintro v126 J126 _ ⟨hJ126, rfl, hpx126⟩; refine lrun rfl (tret (n_ret1 rfl rfl (fun w' hw => ?_))); exact ⟨_, rfl, J126, makH mb [] 0 p lv av h F, ⟨hJl.trans hJ126, 0, [], _, h, lv, av, rfl, hi.mono (hJl.trans hJ126), hpx126, by rw [parP hop0 hopl hcut hc12.1 hc12.2]; exact ⟨rfl, rfl, rfl, rfl⟩⟩, subC_st hw⟩
     ·have h12 : ¬ (opX x.op = [43] ∧ isX h x.text x.op = false) := fun h9 => by have h8 := hc12; rw [decide_eq_true (show Lib.trimPrefix x.op [58] = [43] from h9.1), h9.2] at h8; cases h8
      refine tq (s_run 1 rfl (sq rfl (q_neq_str rfl rfl rfl) (s_run 1 rfl ?_)))
      refine s_and2 1 2 130 132 131 _ _ rfl rfl rfl rfl rfl rfl (fun h132 => by
        simp at h132
        refine s_runG 1 rfl ?_; exact s_val rfl
       ) (wanted_n rfl) rfl rfl rfl ?_
      refine s_run 1 rfl (sdn (t_cond rfl (fun hc13 => ?_) (fun hc13 => ?_)))
      ·rw [Bool.and_eq_true, decide_eq_true_eq] at hc13; refine tr (l_run 2 rfl (lq rfl (q_ld rfl rfl (by rfl)) ?_)); refine lec rfl rfl rfl rfl (fun w hw => whole_calls (valX h x.text).1 x.q _ _ _ w hw) ?_; rintro v136 J136 _ ⟨hJ136, rfl, hpx136⟩; refine lrun rfl (tret (n_ret1 rfl rfl (fun w' hw => ?_))); exact ⟨_, rfl, J136, makH mb [] 0 p lv av h F, ⟨hJl.trans hJ136, 0, [], _, h, lv, av, rfl, hi.mono (hJl.trans hJ136), hpx136, by rw [parI hop0 hopl hcut hc13.1 hc13.2]; exact ⟨rfl, rfl, rfl, rfl⟩⟩, subC_st hw⟩
      ·have h13 : ¬ (opX x.op ≠ [43] ∧ isX h x.text x.op = true) := fun h9 => by have h8 := hc13; rw [decide_eq_true (show Lib.trimPrefix x.op [58] ≠ [43] from h9.1), h9.2] at h8; cases h8
       refine t_skip (n_block (n_then (tr (l_run 1 rfl (lq rfl (q_load_rowA rfl un120 ti120 rfl rfl rfl) (l_run 1 rfl (lec rfl rfl rfl rfl (fun w hw => ins_calls x hw1 (opX x.op) I0 mb p h _ hT hST hxt J lv av (row b3 120 (partC x) :: F) _ w (hI0.trans hJl) (hG.mono hJl) (hi.mono hJl) (pick_mak hw)) ?_))))))); rintro v140 J140 _ ⟨hJ140, e, m, L, h2, lv2, av2, rfl, hi2, hpx, hr⟩; refine lrun rfl (t_ret (n_ret1 rfl rfl (fun w' hw => ?_))); exact ⟨_, rfl, J140, makH mb m e p lv2 av2 h2 F, ⟨hJl.trans hJ140, e, m, L, h2, lv2, av2, rfl, hi2, hpx, by rw [parN hop0 hopl hcut h12 h13]; exact hr⟩, subC_st hw⟩
end Go.Tri

/-
 Parts, one behind the other.
-/
namespace Go.Tri
open Go.Proofs Go.RowKit
set_option maxRecDepth 10000
theorem partX_ari {wi : Bool} {h : Hx} {t op : List UInt8} {w : List PT} {q : Bool} : partX wi h (.mk 4 t op w q) = ariX q (partsX false h [] w) := by
 rw [partX, if_neg (by decide), if_pos rfl]
theorem partX_cmd {wi : Bool} {h : Hx} {t op : List UInt8} {w : List PT} {q : Bool} : partX wi h (.mk 3 t op w q) = askX h t q := by
 rw [partX, if_neg (by decide), if_neg (by decide), if_pos rfl]
theorem partX_home {wi : Bool} {h : Hx} {t op : List UInt8} {w : List PT} {q : Bool} (hh : (parX h homeN).2 = true) : partX wi h (.mk 5 t op w q) = .ok (wholeX (parX h homeN).1 true) h := by
 rw [partX, if_neg (by decide), if_neg (by decide), if_neg (by decide), if_pos ⟨rfl, hh⟩]
theorem partX_lit {wi : Bool} {h : Hx} {k : Nat} {t op : List UInt8} {w : List PT} {q : Bool} (h2 : k ≠ 2) (h4 : k ≠ 4) (h3 : k ≠ 3) (h5 : ¬ (k = 5 ∧ (parX h homeN).2 = true)) : partX wi h (.mk k t op w q) = .ok (litX t q wi) h := by
 rw [partX, if_neg h2, if_neg h4, if_neg h3, if_neg h5]
theorem askX_says {h : Hx} {t : List UInt8} {q : Bool} (h0 : (saysX h t).2 = 0) : askX h t q = .ok (wholeX (trimNl (saysX h t).1) q) (askedX h t) := by
 unfold askX saysX at *
 by_cases hl : (h.asked ++ [t]).length ≤ h.outs.length
 ·rw [if_pos hl, if_pos hl]; rfl
 ·rw [if_neg hl] at h0; exact absurd h0 (by decide)
theorem askX_bad {h : Hx} {t : List UInt8} {q : Bool} (h0 : (saysX h t).2 ≠ 0) : askX h t q = .bad (saysX h t).2 [] (askedX h t) := by
 unfold askX saysX at *
 by_cases hl : (h.asked ++ [t]).length ≤ h.outs.length
 ·rw [if_pos hl] at h0; exact absurd rfl h0
 ·rw [if_neg hl, if_neg hl]; rfl
theorem saysX_le {h : Hx} (hB : HB h) (t : List UInt8) : (saysX h t).1.length ≤ 65536 := by
 unfold saysX
 split
 ·rename_i hl
  rw [List.length_append, List.length_singleton] at hl; exact hB.oo _ (nth_mem (show h.asked.length < h.outs.length by omega))
 ·exact Nat.zero_le _
theorem partC_ones1 {x : PE} (h : One x.wv) : ∀ u ∈ partC x, u.oneCell' = true := fun u hu => by
 simp only [partC, List.mem_cons, List.not_mem_nil, or_false] at hu; rcases hu with rfl | rfl | rfl | rfl | rfl
 ·rfl
 ·rfl
 ·rfl
 ·exact h.2
 ·rfl
theorem partsX_step {b : Bool} {h : Hx} {acc : List Px} {L : List PE} {i : Nat} (hi : i < L.length) : partsX b h acc ((L.drop i).map PE.pt) = match partX b h (nth L i pe0).pt with
  | .bad e m h' => .bad e m h'
  | .ok m h' => partsX b h' (acc ++ m) ((L.drop (i + 1)).map PE.pt) := by
 rw [drop_nth pe0 hi, List.map_cons, partsX]
 cases partX b h (nth L i pe0).pt <;> rfl
theorem part_calls (x : PE) (hw1 : One x.wv) (wi : Bool) (I0 : Look) (mb : Nat) (p : HP) (h : Hx) (hB : HB h) (hn : h.asked.length ≤ 1000000000) (hP : x.kind = 2 → ParamOk x I0 mb p h (partX wi h x.pt)) (hA : x.kind = 4 → AriOk x I0 mb p h (partX wi h x.pt)) : PartOk (x, wi) I0 mb p h (partX wi h x.pt) := by
 intro I lv av F w0 w hI0 hG hi hw0; refine enter Tryz.func38 rfl Tryz.ntmps38 rfl (hw0.self) (tr (le rfl (e_box rfl rfl rfl) ?_)); rintro _ _ _ ⟨b4, rfl, rfl, rfl⟩; refine lrun rfl (t_seq (tr (l_run 1 rfl (lq rfl (q_ld rfl rfl (by rfl)) ?_)))); refine ln (t_block (trun rfl (t_cond rfl (fun hc0 => ?_) (fun hc0 => ?_))))
 ·have hk2 : x.kind = 2 := by have h9 : (x.kind : Int) = 2 := of_decide_eq_true hc0; omega
  refine tr (l_run 1 rfl (lq rfl (q_load_rowA rfl un120 ti120 rfl rfl rfl) (lec rfl rfl rfl rfl (fun w hw => hP hk2 I lv av (row b4 120 (partC x) :: F) _ w hI0 hG hi (pick_mak hw)) ?_))); rintro v17 J17 _ ⟨hJ17, e, m, L, h2, lv2, av2, rfl, hi2, hpx, hr⟩; refine lrun rfl (tret (n_ret1 rfl rfl (fun w' hw => ?_))); exact ⟨_, rfl, J17, makH mb m e p lv2 av2 h2 F, ⟨hJ17, e, m, L, h2, lv2, av2, rfl, hi2, hpx, hr⟩, subC_st hw⟩
 ·have hk2 : x.kind ≠ 2 := by have h9 : ¬ (x.kind : Int) = 2 := of_decide_eq_false hc0; omega
  refine trun rfl (t_cond rfl (fun hc1 => ?_) (fun hc1 => ?_))
  ·have hk4 : x.kind = 4 := by have h9 : (x.kind : Int) = 4 := of_decide_eq_true hc1; omega
   refine tr (l_run 1 rfl (lq rfl (q_load_rowA rfl un120 ti120 rfl rfl rfl) (lec rfl rfl rfl rfl (fun w hw => hA hk4 I lv av (row b4 120 (partC x) :: F) _ w hI0 hG hi (pick_mak hw)) ?_))); rintro v22 J22 _ ⟨hJ22, e, m, L, h2, lv2, av2, rfl, hi2, hpx, hr⟩; refine lrun rfl (tret (n_ret1 rfl rfl (fun w' hw => ?_))); exact ⟨_, rfl, J22, makH mb m e p lv2 av2 h2 F, ⟨hJ22, e, m, L, h2, lv2, av2, rfl, hi2, hpx, hr⟩, subC_st hw⟩
  ·have hk4 : x.kind ≠ 4 := by have h9 : ¬ (x.kind : Int) = 4 := of_decide_eq_false hc1; omega
   refine trun rfl (t_cond rfl (fun hc2 => ?_) (fun hc2 => ?_))
   ·have hk3 : x.kind = 3 := by have h9 : (x.kind : Int) = 3 := of_decide_eq_true hc2; omega
    refine t_seq (t_draw [6] [] [row b4 120 (partC x), row mb 78 (mkC p [] 0)] mo (by kernel_rfl) (fun _ _ _ _ _ h => h) (r_run [0, 1, 2] (by kernel_rfl) rfl rfl rfl (rq1 3 (by kernel_rfl) rfl rfl (q_ld rfl rfl (by rfl)) ?_))); refine r_run [4] (by kernel_rfl) rfl rfl rfl (rq1 5 (by kernel_rfl) rfl rfl (q_ld rfl rfl (by rfl)) ?_); refine re 6 (by kernel_rfl) rfl (Le.refl _) rfl (eff_inv rfl rfl rfl meth_Command Tryz.func192 (by kernel_rfl) rfl (fun w hw => hostCommand_calls p lv av h x.text hn I hi _ _ w (pick_host hw))) ?_; rintro _ _ _ ⟨rfl, rfl, av2, rfl, hi2⟩; refine ⟨Le.refl _, .inr SubC.sub, ?_⟩; refine r_run [7, 8, 9, 10, 11] (by kernel_rfl) rfl rfl rfl (r_end (by kernel_rfl) (n_then (t_seq (trun rfl (t_cond rfl (fun hc3 => ?_) (fun hc3 => ?_))))))
    ·simp at hc3
     have he : (saysX h x.text).2 ≠ 0 := by omega
     refine tr (l_run 2 rfl (lec rfl rfl rfl rfl (fun w hw => mfail_calls mb p [] ((saysX h x.text).2) _ _ _ w (picks_st1 (row mb 78 (mkC p [] 0)) hw)) ?_)); rintro _ _ _ ⟨rfl, rfl, rfl⟩; refine lrun rfl (tret (n_ret1 rfl rfl (fun w' hw => ?_))); exact ⟨_, rfl, I, makH mb [] (saysX h x.text).2 p lv av2 (askedX h x.text) F, ⟨Le.refl _, (saysX h x.text).2, [], [], (askedX h x.text), lv, av2, rfl, hi2, nilX, by rw [PE.pt, hk3, partX_cmd, askX_bad he]; exact ⟨rfl, he, rfl, rfl, rfl⟩⟩, subC_st hw⟩
    ·simp at hc3
     have he : (saysX h x.text).2 = 0 := by omega
     refine tskip (t_seq (t_draw [4] [] [row b4 120 (partC x)] mo (by kernel_rfl) (fun _ _ _ _ _ h => h) (r_run [0] (by kernel_rfl) rfl rfl rfl (rq1 1 (by kernel_rfl) rfl rfl (qc rfl rfl rfl ((fun w _ => trimNl_pure (saysX h x.text).1 w (by have := saysX_le hB x.text; omega)))) ?_)))); refine r_run [2] (by kernel_rfl) rfl rfl rfl (rq1 3 (by kernel_rfl) rfl rfl (q_ld rfl rfl (by rfl)) ?_); refine re 4 (by kernel_rfl) rfl (Le.refl _) rfl (ec rfl rfl rfl (fun w hw => whole_calls (trimNl (saysX h x.text).1) x.q _ _ _ w hw)) ?_; rintro v44 J44 _ ⟨hJ44, rfl, hpx44⟩; refine ⟨hJ44, .inr SubC.sub, ?_⟩; refine r_run [5] (by kernel_rfl) rfl rfl rfl (r_end (by kernel_rfl) (n_then (tret (n_ret1 rfl rfl (fun w' hw => ?_))))); exact ⟨_, rfl, J44, makH mb [] 0 p lv av2 (askedX h x.text) F, ⟨hJ44, 0, [], _, (askedX h x.text), lv, av2, rfl, hi2.mono hJ44, hpx44, by rw [PE.pt, hk3, partX_cmd, askX_says he]; exact ⟨rfl, rfl, rfl, rfl⟩⟩, subC_st hw⟩
   ·have hk3 : x.kind ≠ 3 := by have h9 : ¬ (x.kind : Int) = 3 := of_decide_eq_false hc2; omega
    refine trun rfl (t_cond rfl (fun hc4 => ?_) (fun hc4 => ?_))
    ·have hk5 : x.kind = 5 := by have h9 : (x.kind : Int) = 5 := of_decide_eq_true hc4; omega
     refine tr (l_run 3 rfl (lq rfl (q_ld rfl rfl (by rfl)) ?_)); refine lq rfl (quiet_inv rfl rfl rfl meth_Param Tryz.func193 (by kernel_rfl) rfl ((fun w hw => hostParam_pure p lv av h homeN w (by decide) (hostW_of hi hw)))) ?_; refine lrun rfl (trun rfl (t_cond rfl (fun hc5 => ?_) (fun hc5 => ?_)))
     ·refine tr (l_run 1 rfl (lec rfl rfl rfl rfl (fun w hw => whole_calls (parX h homeN).1 true _ _ _ w hw) ?_)); rintro v57 J57 _ ⟨hJ57, rfl, hpx57⟩; refine lrun rfl (tret (n_ret1 rfl rfl (fun w' hw => ?_))); exact ⟨_, rfl, J57, makH mb [] 0 p lv av h F, ⟨hJ57, 0, [], _, h, lv, av, rfl, hi.mono hJ57, hpx57, by rw [PE.pt, hk5, partX_home hc5]; exact ⟨rfl, rfl, rfl, rfl⟩⟩, subC_st hw⟩
     ·refine t_skip (n_block (n_then (tr (l_quietHead 10 (s_run 1 rfl (sq rfl (q_ld rfl rfl (by rfl)) ?_)))))); refine s_run 1 rfl (sq rfl (q_ld rfl rfl (by rfl)) ?_); refine s_run 2 rfl ?_
      refine s_and2 3 5 63 67 66 _ _ rfl rfl rfl rfl rfl rfl (fun h67 => by
        simp at h67
        refine s_runG 1 rfl (sg rfl (q_ld rfl rfl (by rfl)) ?_); refine s_runG 1 rfl ?_; exact s_val rfl
       ) (wanted_n rfl) rfl rfl rfl ?_
      refine s_list (lq rfl (q_build (pl := [(_, _), (_, _), (_, _)]) (cs := #[_, _, _]) rfl un82 ti82 ⟨rfl, ⟨_, _, ti9⟩, rfl, ⟨_, _, ti4⟩, rfl, ⟨_, _, ti4⟩, trivial⟩ rfl rfl) (lq rfl (q_build (pl := [(_, _), (_, _)]) (cs := #[_, _, _, _]) rfl un84 ti84 ⟨rfl, ⟨_, _, ti82⟩, rfl, ⟨_, _, ti4⟩, trivial⟩ rfl rfl) (le rfl (e_buildSlice1 rfl un43 ti84 rfl rfl rfl (by rfl) rfl) ?_))); rintro _ _ _ ⟨b70, rfl, rfl, rfl⟩; refine l_freezeRow b70 (fun J hJ hk => ?_)
      have hpx := sl_row (f := pxC) (sz := 4) (litX x.text x.q wi) hk rfl rfl (fun _ => rfl)
      refine lrun rfl (t_ret (n_ret1 rfl rfl (fun w' hw => ?_))); exact ⟨_, rfl, J, makH mb [] 0 p lv av h F, ⟨hJ, 0, [], _, h, lv, av, rfl, hi.mono hJ, hpx, by rw [PE.pt, partX_lit hk2 hk4 hk3 (fun h9 => by rw [hc5] at h9; cases h9.2)]; exact ⟨rfl, rfl, rfl, rfl⟩⟩, subC_st hw⟩
    ·have hk5 : x.kind ≠ 5 := by have h9 : ¬ (x.kind : Int) = 5 := of_decide_eq_false hc4; omega
     refine t_skip (n_block (n_then (tr (l_quietHead 10 (s_run 1 rfl (sq rfl (q_ld rfl rfl (by rfl)) ?_)))))); refine s_run 1 rfl (sq rfl (q_ld rfl rfl (by rfl)) ?_); refine s_run 2 rfl ?_
     refine s_and2 3 5 63 67 66 _ _ rfl rfl rfl rfl rfl rfl (fun h67 => by
       simp at h67
       refine s_runG 1 rfl (sg rfl (q_ld rfl rfl (by rfl)) ?_); refine s_runG 1 rfl ?_; exact s_val rfl
      ) (wanted_n rfl) rfl rfl rfl ?_
     refine s_list (lq rfl (q_build (pl := [(_, _), (_, _), (_, _)]) (cs := #[_, _, _]) rfl un82 ti82 ⟨rfl, ⟨_, _, ti9⟩, rfl, ⟨_, _, ti4⟩, rfl, ⟨_, _, ti4⟩, trivial⟩ rfl rfl) (lq rfl (q_build (pl := [(_, _), (_, _)]) (cs := #[_, _, _, _]) rfl un84 ti84 ⟨rfl, ⟨_, _, ti82⟩, rfl, ⟨_, _, ti4⟩, trivial⟩ rfl rfl) (le rfl (e_buildSlice1 rfl un43 ti84 rfl rfl rfl (by rfl) rfl) ?_))); rintro _ _ _ ⟨b70, rfl, rfl, rfl⟩; refine l_freezeRow b70 (fun J hJ hk => ?_)
     have hpx := sl_row (f := pxC) (sz := 4) (litX x.text x.q wi) hk rfl rfl (fun _ => rfl)
     refine lrun rfl (t_ret (n_ret1 rfl rfl (fun w' hw => ?_))); exact ⟨_, rfl, J, makH mb [] 0 p lv av h F, ⟨hJ, 0, [], _, h, lv, av, rfl, hi.mono hJ, hpx, by rw [PE.pt, partX_lit hk2 hk4 hk3 (fun h9 => hk5 h9.1)]; exact ⟨rfl, rfl, rfl, rfl⟩⟩, subC_st hw⟩
theorem parts_step (L : List PE) (v : Value) (b : Bool) (I0 : Look) (hsl : Sl I0 5 v (L.map partC)) (hW : ∀ x ∈ L, One x.wv) (hL : L.length ≤ 1000000) (mb : Nat) (p : HP) (h : Hx) (HOk : Nat → Hx → Prop) (hh : HOk 0 h) (hrec : ∀ i, i < L.length → ∀ h', HOk i h' → PartOk (nth L i pe0, b) I0 mb p h' (partX b h' (nth L i pe0).pt) ∧ ∀ m h'', partX b h' (nth L i pe0).pt = .ok m h'' → HOk (i + 1) h'' ∧ m.length ≤ 1000000) : PartsOk (v, b) I0 mb p h (partsX b h [] (L.map PE.pt)) := by
 intro I lv0 av0 F w0 w hI0 hG hi0 hw0; refine enter Tryz.func22 rfl Tryz.ntmps22 rfl (hw0.self) (trun rfl (trun rfl (t_seq (tr (l_run 1 rfl ?_))))); refine lq rfl ((by exact q_len rfl un73 rfl (Sl.lenOf hsl (List.length_map _)))) ?_; refine lrun rfl (t_block (t_loopE (ι := Nat × Hx × List Px × Value × Value × Value × Look) (fun zz => zz.1 ≤ L.length ∧ Le I zz.2.2.2.2.2.2 ∧ HostI zz.2.2.2.2.2.2 p zz.2.2.2.2.1 zz.2.1 ∧ HOk zz.1 zz.2.1 ∧ zz.2.2.1.length ≤ 1000000 * zz.1 ∧ partsX b h [] (L.map PE.pt) = partsX b zz.2.1 zz.2.2.1 ((L.drop zz.1).map PE.pt)) (fun zz => L.length - zz.1) (fun zz => [(12, .int .i64 (zz.1 : Int)), (7, zz.2.2.2.1)]) [(0, _), (1, _), (2, _), (10, _), (11, _)] (fun zz => zz.2.2.2.2.2.2) (fun zz => (makH mb [] 0 p zz.2.2.2.2.1 zz.2.2.2.2.2.1 zz.2.1 (tvec 84 4 pxC zz.2.2.2.1 zz.2.2.1 :: F))) (0, h, [], .slice none 0 0, lv0, av0, I) ?_ (sub_rfl rfl) (sub_rfl rfl) (fun _ h => by dsimp only; exact subC_st (st_nilT 84 4 pxC h)) ?_))
 ·dsimp only; exact ⟨Nat.zero_le _, Le.refl _, hi0, hh, Nat.le_refl _, rfl⟩
 rintro ⟨i, h1, acc, vo, lv, av, J⟩ ⟨hi1, hJ, hi, hh1, hal, hx⟩; dsimp only at *; refine trun rfl (t_seq (t_cond rfl (fun hc0 => ?_) (fun hc0 => ?_)))
 ·simp at hc0
  have hiL : i < L.length := by omega
  refine tskip (t_seq (t_block (tr ?_))); refine lq rfl ((by exact q_indexAddrN rfl un73 ti120 rfl rfl (Sl.shape hsl (List.length_map _)) (by omega))) ?_; refine lq rfl ((by exact q_load_agg rfl un120 ti120 rfl rfl (rds_pt (i := i) (hsl.mono (hI0.trans hJ)) (by omega)))) ?_; refine le rfl (e_alloc rfl ti120 rfl) ?_; rintro _ _ _ ⟨b9, rfl, rfl, rfl⟩; refine l_e0 rfl rfl ((by exact e_store_all rfl ti120 rfl rfl rfl (by exact partC_ones1 (hW _ (nth_mem (by omega)))) rfl)) ?_; rintro _ _ _ ⟨rfl, rfl⟩; refine lnr1 (l_run 2 rfl (lq rfl ((by exact q_load_rowA rfl un120 ti120 rfl rfl rfl)) ?_)); refine l_run 1 rfl (lec rfl rfl rfl rfl (fun w hw => (hrec i hiL h1 hh1).1 J lv av (row b9 120 (partC (nth L i pe0)) :: tvec 84 4 pxC vo acc :: F) _ w (hI0.trans hJ) (hG.mono hJ) hi (pick_mak hw)) ?_); rintro v20 J20 _ ⟨hJ20, e, m, M, h2, lv2, av2, rfl, hi2, hpx, hr⟩
  have hMl : M.length ≤ 1000000 := by
   rcases Nat.eq_zero_or_pos e with he | he
   ·exact ((hrec i hiL h1 hh1).2 _ _ (hr.ok he).2).2
   ·rw [(hr.bad (by omega : e ≠ 0)).1]; exact Nat.zero_le _
  refine le rfl (e_appendSl (f := pxC) (l := acc) (ls := M) rfl un43 ti84 rfl rfl rfl rfl (hpx) rfl (fun _ => rfl) pxC_ones (by simp only [maxLen]; omega) (by omega)) ?_; rintro v21 _ _ ⟨rfl, rfl⟩; refine lrun rfl (tr (l_run 3 rfl (lq rfl (q_ld rfl rfl (by rfl)) ?_))); refine lrun rfl (t_cond rfl (fun hc1 => ?_) (fun hc1 => ?_))
  ·simp at hc1
   have he : e ≠ 0 := by omega
   refine trun rfl (tret (n_ret1 rfl rfl (fun w' hw => ?_))); exact ⟨_, rfl, J20, makH mb m e p lv2 av2 h2 F, ⟨hJ.trans hJ20, e, m, [], h2, lv2, av2, rfl, hi2, nilX, by rw [hx, partsX_step hiL, (hr.bad he).2]; exact ⟨rfl, he, rfl, rfl, rfl⟩⟩, subC_st hw⟩
  ·simp at hc1
   have he : e = 0 := by omega
   refine t_skip (n_block (n_then (t_region (lq rfl (q_add64 rfl rfl rfl (by omega)) ?_)))); refine l_runA rfl (n_roundE ((i + 1, h2, acc ++ M, v21, lv2, av2, J20)) ?_ ?_ (sub_rfl rfl) (sub_rfl rfl) (fun _ h => by dsimp only; rw [he, (hr.ok he).1] at h; exact subC_st h))
   ·dsimp only
    have hk := (hrec i hiL h1 hh1).2 _ _ (hr.ok he).2
    refine ⟨by omega, hJ.trans hJ20, hi2, hk.1, by rw [List.length_append]; omega, ?_⟩; rw [hx, partsX_step hiL, (hr.ok he).2]
   ·dsimp only
    show L.length - (i + 1) < L.length - i
    omega
 ·simp at hc0
  have hiL : i = L.length := by omega
  rw [hiL, List.drop_length, List.map_nil, partsX] at hx; refine t_exit (n_exit_then (n_exit_then (n_exit_block (n_then (t_seq (t_freezeT (f := pxC) (l := acc) vo (fun _ => rfl) (fun Jf hJf hvo => ?_))))))); refine t_region (lrun rfl (t_ret (n_ret1 rfl rfl (fun w' hw => ?_)))); exact ⟨_, rfl, Jf, makH mb [] 0 p lv av h1 F, ⟨hJ.trans hJf, 0, [], acc, h1, lv, av, rfl, hi.mono hJf, hvo, by rw [hx]; exact ⟨rfl, rfl, rfl, rfl⟩⟩, subC_st hw⟩
end Go.Tri

/-
 An expression among the parts.
-/
namespace Go.Tri
open Go.Proofs Go.RowKit
set_option maxRecDepth 10000
theorem evx_len {L : List Px} {h : Hx} (hs : (textX L).length ≤ 900000000) : (evX L h).2.1.length ≤ 900000001 := by
 unfold evX evalP
 cases hr : readA (textX L) with
 | bad k => exact Nat.zero_le _
 | ok x =>
  simp only
  cases hw : workP ((shownX h.vars).map Vr.nv) x [] with
  | bad k => exact Nat.zero_le _
  | ok v S =>
   have h1 := workP_len x [] S v hw
   have h2 := readA_sz hs hr
   simp only [List.length_nil] at h1
   show S.length ≤ _
   omega
theorem ariX_bad {q : Bool} {l : List Px} {h : Hx} (he : (evX l h).2.2 ≠ 0) : ariX q (.ok l h) = .bad (evX l h).2.2 [] h := by unfold ariX; simp only; rw [if_pos he]
theorem ariX_ok {q : Bool} {l : List Px} {h : Hx} (he : (evX l h).2.2 = 0) : ariX q (.ok l h) = setsX (wholeX (Lib.itoa (evX l h).1) q) (evX l h).2.1 h := by unfold ariX; simp only; rw [if_neg (by rw [he]; simp)]
theorem setsX_at {A : List Px} {S : List Ass} {i : Nat} {h : Hx} (hi : i < S.length) : setsX A (S.drop i) h = if (setN h.vars (nth S i as0).1 (Lib.itoa (nth S i as0).2)).1 ≠ 0 then .bad (setN h.vars (nth S i as0).1 (Lib.itoa (nth S i as0).2)).1 [] h else setsX A (S.drop (i + 1)) (h.put (setN h.vars (nth S i as0).1 (Lib.itoa (nth S i as0).2)).2) := by
 rw [drop_nth as0 hi, setsX]
theorem shown_ok {h : Hx} (hB : HB h) : VarsOk (shownX h.vars) := by
 have h1 : (shownX h.vars).length ≤ h.vars.length := List.length_filter_le _ _
 have h2 := hB.vn
 refine ⟨by omega, fun v hv => ?_⟩
 have := hB.vv v (List.mem_filter.1 hv).1
 omega
theorem evx_calls (L : List Px) (h : Hx) (vv : Value) (I : Look) (F : List HA) (w0 w : World) (hs : (textX L).length ≤ 900000000) (hv : Sl I 5 vv ((shownX h.vars).map vrC)) (hV : VarsOk (shownX h.vars)) (hG : EnvI I) (hw0 : St w0 I F w) : Calls Tryz.prog 78 [str (textX L), vv].toArray w (fun e w' => ∃ v, e = .returned v ∧ ∃ I' H', (Le I I' ∧ F = H' ∧ ∃ sl, v = .tuple #[.int .i64 (evX L h).1, sl, .int .i64 ((evX L h).2.2 : Int)] ∧ Sl I' 2 sl ((evX L h).2.1.map asC)) ∧ St w I' H' w') := eval_calls (textX L) vv (shownX h.vars) I F w0 w hs hv hV hG hw0
theorem ari_calls (x : PE) (hw1 : One x.wv) (I0 : Look) (mb : Nat) (p : HP) (h : Hx) (r0 : XR) (hF : PartsOk (x.wv, false) I0 mb p h r0) (hS : Small r0) (hB : ∀ L h', r0 = .ok L h' → HB h') : AriOk x I0 mb p h (ariX x.q r0) := by
 intro I lv av F w0 w hI0 hG hi hw0; refine enter Tryz.func53 rfl Tryz.ntmps53 rfl (hw0.self) (tr (le rfl (e_box rfl rfl rfl) ?_)); rintro _ _ _ ⟨b3, rfl, rfl, rfl⟩; refine lrun rfl (tr (l_run 2 rfl (lq rfl (q_ld rfl rfl (by rfl)) ?_))); refine lec rfl rfl rfl rfl (fun w hw => hF I lv av (row b3 120 (partC x) :: F) _ w hI0 hG hi (pick_mak hw)) ?_; rintro v15 J15 _ ⟨hJ15, e, m, L, h2, lv2, av2, rfl, hi2, hpx, hr⟩; refine lrun rfl (t_seq (tr (l_run 3 rfl (lq rfl (q_ld rfl rfl (by rfl)) ?_)))); refine lrun rfl (t_cond rfl (fun hc0 => ?_) (fun hc0 => ?_))
 ·simp at hc0
  have he : e ≠ 0 := by omega
  obtain ⟨rfl, hre⟩ := hr.bad he; subst hre; refine trun rfl (tret (n_ret1 rfl rfl (fun w' hw => ?_))); exact ⟨_, rfl, J15, makH mb m e p lv2 av2 h2 F, ⟨hJ15, e, m, [], h2, lv2, av2, rfl, hi2, nilX, ⟨rfl, he, rfl, rfl, rfl⟩⟩, subC_st hw⟩
 ·simp at hc0
  have he : e = 0 := by omega
  subst he; obtain ⟨rfl, hre⟩ := hr.ok rfl; subst hre; obtain ⟨hS1, hS2⟩ := hS L h2 rfl
  have hVO := shown_ok (hB L h2 rfl)
  refine tskip (t_seq (t_draw [6, 7] [] [row b3 120 (partC x), row mb 78 (mkC p [] 0)] mo (by kernel_rfl) (fun _ _ _ _ _ h => h) (r_run [0] (by kernel_rfl) rfl rfl rfl (rq1 1 (by kernel_rfl) rfl rfl (qc rfl rfl rfl ((fun w hw => xtext_pure v15 L w (by omega) (by omega) (hpx.mono hw.le)))) ?_)))); refine r_run [2, 3, 4] (by kernel_rfl) rfl rfl rfl (rq1 5 (by kernel_rfl) rfl rfl (q_ld rfl rfl (by rfl)) ?_); refine re 6 (by kernel_rfl) rfl (Le.refl _) rfl (eff_inv rfl rfl rfl meth_Vars Tryz.func196 (by kernel_rfl) rfl (fun w hw => hostVars_calls p lv2 av2 h2 _ hi2 _ _ w (pick_host hw))) ?_; rintro v28 J28 _ ⟨hJ28, rfl, hsl28⟩; refine ⟨hJ28, .inr SubC.sub, ?_⟩; refine re 7 (by kernel_rfl) rfl (hJ28) rfl (ec rfl rfl rfl (fun w hw => evx_calls L h2 v28 _ _ _ w (by omega) hsl28 hVO (hG.mono (hJ15.trans hJ28)) hw)) ?_; rintro _ J29 _ ⟨hJ29, rfl, sl, rfl, hsl⟩; refine ⟨hJ29, .inr SubC.sub, ?_⟩; refine r_run [8, 9, 10, 11, 12, 13, 14] (by kernel_rfl) rfl rfl rfl (r_end (by kernel_rfl) (n_then (t_seq (trun rfl (t_cond rfl (fun hc1 => ?_) (fun hc1 => ?_))))))
  ·simp at hc1
   have hev : (evX L h2).2.2 ≠ 0 := by omega
   refine tr (l_run 2 rfl (lec rfl rfl rfl rfl (fun w hw => mfail_calls mb p [] ((evX L h2).2.2) _ _ _ w (picks_st1 (row mb 78 (mkC p [] 0)) hw)) ?_)); rintro _ _ _ ⟨rfl, rfl, rfl⟩; refine lrun rfl (tret (n_ret1 rfl rfl (fun w' hw => ?_))); exact ⟨_, rfl, J29, makH mb [] (evX L h2).2.2 p lv2 av2 h2 F, ⟨hJ15.trans (hJ28.trans hJ29), (evX L h2).2.2, [], [], h2, lv2, av2, rfl, (hi2.mono hJ28).mono hJ29, nilX, by rw [ariX_bad hev]; exact ⟨rfl, hev, rfl, rfl, rfl⟩⟩, subC_st hw⟩
  ·simp at hc1
   have hev : (evX L h2).2.2 = 0 := by omega
   have hEI : In64 (evX L h2).1 ∧ AsOk (textX L).length (evX L h2).2.1 := eval_I (textX L) ((shownX h2.vars).map Vr.nv)
   have hAs := hEI.2
   have hSl := evx_len (h := h2) hS2
   refine tskip (t_seq (tr (l_run 1 rfl ?_))); refine lq rfl ((by exact q_len rfl un161 rfl (Sl.lenOf hsl (List.length_map _)))) ?_; refine lrun rfl (t_block (t_loopE (ι := Nat × Hx × Value × Look) (fun zz => zz.1 ≤ (evX L h2).2.1.length ∧ Le I zz.2.2.2 ∧ Le J29 zz.2.2.2 ∧ HostI zz.2.2.2 p zz.2.2.1 zz.2.1 ∧ setsX (wholeX (Lib.itoa (evX L h2).1) x.q) (evX L h2).2.1 h2 = setsX (wholeX (Lib.itoa (evX L h2).1) x.q) ((evX L h2).2.1.drop zz.1) zz.2.1) (fun zz => (evX L h2).2.1.length - zz.1) (fun zz => [(40, .int .i64 (zz.1 : Int))]) [(0, _), (1, _), (3, _), (5, _), (20, _), (6, _), (7, _), (8, _), (34, _), (38, _), (39, _)] (fun zz => zz.2.2.2) (fun zz => (row b3 120 (partC x) :: makH mb [] 0 p zz.2.2.1 av2 zz.2.1 F)) (0, h2, lv2, J29) ?_ (sub_rfl rfl) (sub_rfl rfl) (fun _ h => subC_st h) ?_))
   ·dsimp only; exact ⟨Nat.zero_le _, hJ15.trans (hJ28.trans hJ29), Le.refl _, (hi2.mono hJ28).mono hJ29, rfl⟩
   rintro ⟨i, hh, lvi, J⟩ ⟨hil0, hJ, hJq, hii, hst⟩; dsimp only at *; refine trun rfl (t_seq (t_cond rfl (fun hc2 => ?_) (fun hc2 => ?_)))
   ·simp at hc2
    have hil : i < (evX L h2).2.1.length := by omega
    have hAi := hAs (nth (evX L h2).2.1 i as0) (nth_mem hil)
    have hAi2 := hAi.2
    refine tskip (t_seq (t_block (tr ?_))); refine lq rfl ((by exact q_indexAddrN rfl un161 ti166 rfl rfl (Sl.shape (hsl.mono hJq) (List.length_map _)) (by omega))) ?_; refine lq rfl ((by exact q_load_agg rfl un166 ti166 rfl rfl (rds_as (i := i) (hsl.mono hJq) (by omega)))) ?_; refine le rfl (e_alloc rfl ti166 rfl) ?_; rintro _ _ _ ⟨b10, rfl, rfl, rfl⟩; refine l_e0 rfl rfl ((by exact e_store_all rfl ti166 rfl rfl rfl (by exact asC_ones _) rfl)) ?_; rintro _ _ _ ⟨rfl, rfl⟩; refine l_heap (H' := row b10 166 (asC (nth (evX L h2).2.1 i as0)) :: _) ?_ (fun _ h => h); refine lnt (t_draw [11] [] [row b3 120 (partC x), row mb 78 (mkC p [] 0), row b10 166 (asC (nth (evX L h2).2.1 i as0))] mo (by kernel_rfl) (fun _ _ _ _ _ h => h) (r_run [0, 1, 2] (by kernel_rfl) rfl rfl rfl (rq1 3 (by kernel_rfl) rfl rfl (q_ld rfl rfl (by rfl)) ?_))); refine r_run [4] (by kernel_rfl) rfl rfl rfl (rq1 5 (by kernel_rfl) rfl rfl (q_ld rfl rfl (by rfl)) ?_); refine r_run [6] (by kernel_rfl) rfl rfl rfl (rq1 7 (by kernel_rfl) rfl rfl (q_ld rfl rfl (by rfl)) ?_)
    refine rq1 8 (by kernel_rfl) rfl rfl (qc rfl rfl rfl ((fun w hw => decimal_pure (nth (evX L h2).2.1 i as0).2 w hAi.1 ((hG.mono hJ).mono hw.le).gw))) (r_run [9, 10] (by kernel_rfl) rfl rfl rfl (re 11 (by kernel_rfl) rfl (Le.refl _) rfl (eff_inv rfl rfl rfl meth_Set Tryz.func195 (by kernel_rfl) rfl (fun w hw => hostSet_calls p lvi av2 hh (nth (evX L h2).2.1 i as0).1 (Lib.itoa (nth (evX L h2).2.1 i as0).2) (by omega) _ hii _ _ w (pick_host hw))) ?_)); rintro _ J55 _ ⟨hJ55, rfl, lv3, rfl, hi3⟩; refine ⟨hJ55, .inr SubC.sub, ?_⟩; refine r_run [12] (by kernel_rfl) rfl rfl rfl (r_end (by kernel_rfl) (n_then (trun rfl (t_cond rfl (fun hc3 => ?_) (fun hc3 => ?_)))))
    ·simp at hc3
     have he3 : (setN hh.vars (nth (evX L h2).2.1 i as0).1 (Lib.itoa (nth (evX L h2).2.1 i as0).2)).1 ≠ 0 := by omega
     rw [Hx.put_keep he3] at hi3; refine tr (l_run 2 rfl (lec rfl rfl rfl rfl (fun w hw => mfail_calls mb p [] ((setN hh.vars (nth (evX L h2).2.1 i as0).1 (Lib.itoa (nth (evX L h2).2.1 i as0).2)).1) _ _ _ w (picks_st1 (row mb 78 (mkC p [] 0)) hw)) ?_)); rintro _ _ _ ⟨rfl, rfl, rfl⟩; refine lrun rfl (tret (n_ret1 rfl rfl (fun w' hw => ?_))); exact ⟨_, rfl, J55, makH mb [] (setN hh.vars (nth (evX L h2).2.1 i as0).1 (Lib.itoa (nth (evX L h2).2.1 i as0).2)).1 p lv3 av2 hh F, ⟨hJ.trans hJ55, (setN hh.vars (nth (evX L h2).2.1 i as0).1 (Lib.itoa (nth (evX L h2).2.1 i as0).2)).1, [], [], hh, lv3, av2, rfl, hi3, nilX, by rw [ariX_ok hev, hst, setsX_at hil, if_pos he3]; exact ⟨rfl, he3, rfl, rfl, rfl⟩⟩, subC_st hw⟩
    ·simp at hc3
     have he3 : (setN hh.vars (nth (evX L h2).2.1 i as0).1 (Lib.itoa (nth (evX L h2).2.1 i as0).2)).1 = 0 := by omega
     refine t_skip (n_block (n_then (t_region (lq rfl (q_add64 rfl rfl rfl (by omega)) ?_)))); refine l_runA rfl (n_roundE ((i + 1, hh.put (setN hh.vars (nth (evX L h2).2.1 i as0).1 (Lib.itoa (nth (evX L h2).2.1 i as0).2)).2, lv3, J55)) ?_ ?_ (sub_rfl rfl) (sub_rfl rfl) (fun _ h => by dsimp only; exact subC_st h))
     ·dsimp only; refine ⟨(show i + 1 ≤ _ by omega), hJ.trans hJ55, hJq.trans hJ55, hi3, ?_⟩; rw [hst, setsX_at hil, if_neg (by omega)]
     ·dsimp only
      show (evX L h2).2.1.length - (i + 1) < (evX L h2).2.1.length - i
      omega
   ·simp at hc2
    have hil : i = (evX L h2).2.1.length := by omega
    rw [hil, List.drop_length, setsX] at hst; refine t_exit (n_exit_then (n_exit_then (n_exit_block (n_then (t_seq (t_draw [4] [] [row b3 120 (partC x)] mo (by kernel_rfl) (fun _ _ _ _ _ h => h) (r_run [0] (by kernel_rfl) rfl rfl rfl (rq1 1 (by kernel_rfl) rfl rfl (qc rfl rfl rfl ((fun w hw => decimal_pure (evX L h2).1 w hEI.1 ((hG.mono hJ).mono hw.le).gw))) (r_run [2] (by kernel_rfl) rfl rfl rfl ?_))))))))); refine rq1 3 (by kernel_rfl) rfl rfl (q_ld rfl rfl (by rfl)) ?_; refine re 4 (by kernel_rfl) rfl (Le.refl _) rfl (ec rfl rfl rfl (fun w hw => whole_calls (Lib.itoa (evX L h2).1) x.q _ _ _ w hw)) ?_; rintro v66 J66 _ ⟨hJ66, rfl, hpx66⟩; refine ⟨hJ66, .inr SubC.sub, ?_⟩; refine r_run [5] (by kernel_rfl) rfl rfl rfl (r_end (by kernel_rfl) (n_then (t_ret (n_ret1 rfl rfl (fun w' hw => ?_))))); exact ⟨_, rfl, J66, makH mb [] 0 p lvi av2 hh F, ⟨hJ.trans hJ66, 0, [], _, hh, lvi, av2, rfl, hii.mono hJ66, hpx66, by rw [ariX_ok hev, hst]; exact ⟨rfl, rfl, rfl, rfl⟩⟩, subC_st hw⟩
end Go.Tri

/-
 A text of a kind.
-/
namespace Go.Tri
open Go.Proofs Go.RowKit
set_option maxRecDepth 10000
theorem cntL_ge (L : List PE) : L.length ≤ cntL (L.map PE.pt) := by
 induction L with
 | nil => exact Nat.zero_le _
 | cons x L ih =>
  rw [List.map_cons, cntL, List.length_cons]
  have := cnt_pos x.pt
  omega
theorem cntL_drop {L : List PE} {i : Nat} (hi : i < L.length) : cntL ((L.drop i).map PE.pt) = (nth L i pe0).pt.cnt + cntL ((L.drop (i + 1)).map PE.pt) := by
 rw [drop_nth pe0 hi, List.map_cons, cntL]
theorem cntL_drop_le (L : List PE) (i : Nat) : cntL ((L.drop i).map PE.pt) ≤ cntL (L.map PE.pt) := by
 conv => rhs; rw [← List.take_append_drop i L, List.map_append, cntL_app]
 omega
theorem small_bnd {h : Hx} {k : Nat} {r : XR} (hb : Bnd h k 0 0 r) (hk : k ≤ 2000) : Small r := fun L h' e => by
 rw [e] at hb; obtain ⟨_, _, h3, h4⟩ := hb; exact ⟨by omega, by omega⟩
/-- any parts without expressions -/
theorem parts_all (mb : Nat) (p : HP) : ∀ (n : Nat) (l : List PT), cntL l ≤ n → cntL l ≤ 2000 → oksT l → ∀ (v : Value) (wi : Bool) (I0 : Look) (h : Hx), PlR I0 v l → HB h → h.asked.length + cntL l ≤ 1000000 → PartsOk (v, wi) I0 mb p h (partsX wi h [] l) := by
 intro n
 induction n with
 | zero =>
  intro l hn hc ho v wi I0 h hv hB ha; obtain ⟨L, rfl, hsl, hW⟩ := hv.un
  have := cntL_ge L
  exact parts_step L v wi I0 hsl (fun x hx => (hW x hx).one) (by omega) mb p h (fun _ _ => True) trivial (fun i hi => absurd hi (by omega))
 | succ n ih =>
  intro l hn hc ho v wi I0 h hv hB ha; obtain ⟨L, rfl, hsl, hW⟩ := hv.un
  have hlen := cntL_ge L
  refine parts_step L v wi I0 hsl (fun x hx => (hW x hx).one) (by omega) mb p h (fun i h' => HB h' ∧ h'.asked.length + cntL ((L.drop i).map PE.pt) ≤ 1000000) ⟨hB, by simpa using ha⟩ (fun i hi h' hh => ?_); obtain ⟨hB', ha'⟩ := hh
  have hx : nth L i pe0 ∈ L := nth_mem hi
  have hxo := oksT_mem ho (List.mem_map.2 ⟨_, hx, rfl⟩)
  have hdr := cntL_drop hi
  have hdl := cntL_drop_le L i
  have hxp := hW _ hx
  generalize nth L i pe0 = x at *
  have hcx : x.pt.cnt = 1 + cntL x.word := rfl
  have hxo' : x.text.length ≤ 65536 ∧ oksT x.word := hxo
  obtain ⟨htx, hwo⟩ := hxo'
  have hb := partX_bnd x.pt wi h' hxo hB'
  refine ⟨part_calls x hxp.one wi I0 mb p h' hB' (by omega) (fun hk => ?_) (fun hk => ?_), fun m h'' e => ?_⟩
  ·rw [PE.pt, hk]
   exact param_calls x hxp.one wi I0 mb p h' hB' (ih x.word (by omega) (by omega) hwo x.wv false I0 h' hxp hB' (by omega)) (small_bnd (partsX_bnd x.word false h' [] hwo hB') (by omega))
    (ih x.word (by omega) (by omega) hwo x.wv true I0 h' hxp hB' (by omega)) (small_bnd (partsX_bnd x.word true h' [] hwo hB') (by omega)) (by omega)
  ·have hF := partsX_bnd x.word false h' [] hwo hB'
   rw [PE.pt, hk, partX_ari]; exact ari_calls x hxp.one I0 mb p h' _ (ih x.word (by omega) (by omega) hwo x.wv false I0 h' hxp hB' (by omega)) (small_bnd hF (by omega)) (fun L h9 e => by rw [e] at hF; exact hF.1)
  ·rw [e] at hb; obtain ⟨h1, h2, h3, h4⟩ := hb; exact ⟨⟨h1, by omega⟩, by omega⟩
theorem oneX_bad {h h' : Hx} {s m : List UInt8} {kd : Int} {e : Nat} (hx : expX h s kd = .bad e m h') : oneX h s kd = ([], m, e, h') := by unfold oneX; rw [hx]
theorem oneX_long {h h' : Hx} {s : List UInt8} {kd : Int} {L : List Px} (hx : expX h s kd = .ok L h') (hl : 65536 < (textX L).length) : oneX h s kd = ([], [], 66, h') := by unfold oneX; rw [hx]; exact if_pos hl
theorem oneX_ok {h h' : Hx} {s : List UInt8} {kd : Int} {L : List Px} (hx : expX h s kd = .ok L h') (hl : ¬ 65536 < (textX L).length) : oneX h s kd = (textX L, [], 0, h') := by unfold oneX; rw [hx]; exact if_neg hl
/-- what the parts of a text need -/
def ExpOk (p : HP) (h : Hx) (s : List UInt8) (kd : Int) : Prop := ∀ l, partsP s kd = .ok l → ∀ (v : Value) (I0 : Look) (mb : Nat), PlR I0 v l → PartsOk (v, false) I0 mb p h (partsX false h [] l)
theorem expOk_of {h : Hx} {s : List UInt8} {kd : Int} (p : HP) (hB : HB h) (ha : h.asked.length ≤ 900000) (ho : ∀ l, partsP s kd = .ok l → cntL l ≤ 2000 ∧ oksT l) : ExpOk p h s kd ∧ Small (expX h s kd) := by
 refine ⟨fun l hl v I0 mb hv => ?_, ?_⟩
 ·obtain ⟨h1, h2⟩ := ho l hl; exact parts_all mb p _ l (Nat.le_refl _) h1 h2 v false I0 h hv hB (by omega)
 ·unfold expX
  cases hp : partsP s kd with
  | bad e => exact fun _ _ h9 => by cases h9
  | ok l =>
   obtain ⟨h1, h2⟩ := ho l hp; exact small_bnd (partsX_bnd l false h [] h2 hB) h1
theorem expandx_calls (p : HP) (s : List UInt8) (kd : Int) (hs : s.length ≤ 1000000000) (h : Hx) (hok : ExpOk p h s kd) (lv av : Value) (I : Look) (F : List HA) (w0 w : World) (hG : EnvI I) (hi : HostI I p lv h) (hw0 : St w0 I (hostH p lv av h F) w) : Calls Tryz.prog 9 [.iface 31 (.pointer (some ⟨p.hb, 0, none⟩)), str s, .int .i64 kd].toArray w (fun e1 w' => ∃ v, e1 = .returned v ∧ ∃ I' H', (Le I I' ∧ ∃ (e : Nat) (m : List UInt8) (L : List Px) (h' : Hx) (lv av v1 : Value), v = .tuple #[v1, str m, .int .i64 (e : Int)] ∧ H' = hostH p lv av h' F ∧ HostI I' p lv h' ∧ PxR I' v1 L ∧ XR.is (expX h s kd) e m L h') ∧ St w I' H' w') := by
 have hei : ErrIs (.iface 31 (.pointer (some ⟨p.hb, 0, none⟩))) true := .inr ⟨rfl, _, _, rfl⟩
 refine enter Tryz.func9 rfl Tryz.ntmps9 rfl (hw0.self) (trun rfl (t_seq (tr (l_run 1 rfl (lq rfl (q_eql_inil rfl (by kernel_rfl) rfl (by assumption)) ?_))))); refine ln (t_cond rfl (fun hc0 => ?_) (fun hc0 => ?_))
 ·cases hc0
 ·refine tskip (tr (l_run 2 rfl (lec rfl rfl rfl rfl (fun w hw => parts_calls s kd _ _ _ w hs hG hw) ?_))); rintro _ J18 _ ⟨hJ18, rfl, vl, e1, rfl, hwr⟩; refine lrun rfl (t_seq (trun rfl (t_cond rfl (fun hc1 => ?_) (fun hc1 => ?_))))
  ·simp at hc1
   have he1 : e1 ≠ 0 := by omega
   obtain ⟨hbad, rfl⟩ := hwr.f he1; refine trun rfl (tret (n_ret3 rfl rfl rfl rfl (fun w' hw => ?_))); exact ⟨_, rfl, J18, hostH p lv av h F, ⟨hJ18, e1, [], [], h, lv, av, nilV, rfl, rfl, hi.mono hJ18, nilX, by unfold expX; rw [hbad]; exact ⟨rfl, he1, rfl, rfl, rfl⟩⟩, subC_st hw⟩
  ·simp at hc1
   have he1 : e1 = 0 := by omega
   obtain ⟨l, hl, hpl⟩ := hwr.t he1; refine tskip (tr (l_run 1 rfl (lq rfl (q_build (pl := [(_, _), (_, _), (_, _)]) (cs := #[_, _, _]) rfl un78 ti78 ⟨rfl, ⟨_, _, ti42⟩, rfl, ⟨_, _, ti9⟩, rfl, ⟨_, _, ti28⟩, trivial⟩ rfl rfl) (le rfl (e_box rfl rfl rfl) ?_)))); rintro _ _ _ ⟨b26, rfl, rfl, rfl⟩; refine l_heap (H' := row b26 78 (mkC p [] 0) :: _) ?_ (fun _ h => h); refine lrun rfl (tr (l_run 2 rfl (lec rfl rfl rfl rfl (fun w hw => hok l hl vl J18 b26 hpl J18 lv av F _ w (Le.refl _) (hG.mono hJ18) (hi.mono hJ18) (pick_mak hw)) ?_))); rintro v29 J29 _ ⟨hJ29, e, m, L, h2, lv2, av2, rfl, hi2, hpx, hr⟩; refine lrun rfl (t_seq (t_qdraw mo (by kernel_rfl) (fun _ _ _ _ _ h => h) (s_run 4 rfl (sq rfl (q_ld rfl rfl (by rfl)) ?_)))); refine s_run 3 rfl (sq rfl (q_ld rfl rfl (by rfl)) ?_); refine s_run 3 rfl (sdn (t_ret (n_ret3 rfl rfl rfl rfl (fun w' hw => ?_)))); exact ⟨_, rfl, J29, hostH p lv2 av2 h2 F, ⟨hJ18.trans hJ29, e, m, L, h2, lv2, av2, v29, rfl, rfl, hi2, hpx, by unfold expX; rw [hl]; exact hr⟩, subC_st hw⟩
theorem onex_calls (p : HP) (s : List UInt8) (kd : Int) (hs : s.length ≤ 1000000000) (h : Hx) (hok : ExpOk p h s kd) (hS : Small (expX h s kd)) (lv av : Value) (I : Look) (F : List HA) (w0 w : World) (hG : EnvI I) (hi : HostI I p lv h) (hw0 : St w0 I (hostH p lv av h F) w) : Calls Tryz.prog 8 [.iface 31 (.pointer (some ⟨p.hb, 0, none⟩)), str s, .int .i64 kd].toArray w (fun e1 w' => ∃ v, e1 = .returned v ∧ ∃ I' H', (Le I I' ∧ v = .tuple #[str (oneX h s kd).1, str (oneX h s kd).2.1, .int .i64 ((oneX h s kd).2.2.1 : Int)] ∧ ∃ lv av, H' = hostH p lv av (oneX h s kd).2.2.2 F ∧ HostI I' p lv (oneX h s kd).2.2.2) ∧ St w I' H' w') := by
 refine enter Tryz.func8 rfl Tryz.ntmps8 rfl (hw0.self) (trun rfl (tr (l_run 3 rfl (lec rfl rfl rfl rfl (fun w hw => expandx_calls p s kd hs h hok lv av I _ _ w hG hi (pick_host hw)) ?_)))); rintro _ J17 _ ⟨hJ17, e, m, L, h2, lv2, av2, v17, rfl, rfl, hi2, hpx, hr⟩; refine lrun rfl (t_seq (trun rfl (t_cond rfl (fun hc0 => ?_) (fun hc0 => ?_))))
 ·simp at hc0
  have he : e ≠ 0 := by omega
  obtain ⟨rfl, hre⟩ := hr.bad he
  have ho := oneX_bad hre
  refine trun rfl (tret (n_ret3 rfl rfl rfl rfl (fun w' hw => ?_))); rw [ho]; exact ⟨_, rfl, J17, hostH p lv2 av2 h2 F, ⟨hJ17, rfl, lv2, av2, rfl, hi2⟩, subC_st hw⟩
 ·simp at hc0
  have he : e = 0 := by omega
  subst he; obtain ⟨rfl, hre⟩ := hr.ok rfl; obtain ⟨hS1, hS2⟩ := hS L h2 hre; refine tskip (tr (l_run 1 rfl (lq rfl (qc rfl rfl rfl ((fun w hw => xtext_pure v17 L w (by omega) (by omega) (hpx.mono hw.le)))) ?_))); refine lrun rfl (t_seq (tr (l_run 1 rfl (lq rfl (q_len_str rfl un9 rfl) (lrun rfl (t_cond rfl (fun hc1 => ?_) (fun hc1 => ?_)))))))
  ·simp at hc1
   have ho := oneX_long hre (by omega)
   refine trun rfl (tret (n_ret3 rfl rfl rfl rfl (fun w' hw => ?_))); rw [ho]; exact ⟨_, rfl, J17, hostH p lv2 av2 h2 F, ⟨hJ17, rfl, lv2, av2, rfl, hi2⟩, subC_st hw⟩
  ·simp at hc1
   have ho := oneX_ok hre (by omega)
   refine tskip (trun rfl (t_ret (n_ret3 rfl rfl rfl rfl (fun w' hw => ?_)))); rw [ho]; exact ⟨_, rfl, J17, hostH p lv2 av2 h2 F, ⟨hJ17, rfl, lv2, av2, rfl, hi2⟩, subC_st hw⟩
end Go.Tri
