/-
 A scanner: its small steps.
-/
import Derived.Test.YtmjcakamgeepbaaGreatDoorEA0
namespace Go.Tri
open Go.Proofs Go.RowKit
set_option maxRecDepth 10000
theorem run_ibs (s : List UInt8) (c : UInt8) (w : World) : (Extern.BytealgIndexByte.indexByte #[str s, u8 c]).run Tryz.prog w = .ok (.int .i64 (Lib.indexByte s c)) w := by
 unfold str u8; rw [Lib.run_indexByteString]
 simp
/-- a scanner's cells -/
def scC (s : List UInt8) (i a e : Nat) : List Value := [str s, .int .i64 (i : Int), .int .i64 (a : Int), .int .i64 (e : Int)]
/-- what a block holds -/
def Rowed (w : World) (b : Nat) (cs : List Value) : Prop := ∀ k u, cs[k]? = some u → CellI (look w) b k u
theorem rowed_of {w0 w : World} {I : Look} {H : List HA} {b : Nat} {T : TypeId} {cs : List Value} (hw : St w0 I H w) [hm : InRow b T cs H] : Rowed w b cs := fun k u hk =>
 ⟨cs.toArray, T, (0, 0), hw.sat _ hm.mem, by simpa using hk⟩
/-- what a scan left behind -/
def SRel (i : Nat) (r : SR) (ok : Bool) (i' a' e' : Nat) : Prop := match r with
 | .ok k => ok = true ∧ i' = i + k ∧ a' = 0 ∧ e' = 0
 | .bad a e => ok = false ∧ a' = i + a ∧ e' = e
theorem SRel.t {i i' a' e' : Nat} {r : SR} {ok : Bool} (h : SRel i r ok i' a' e') (hok : ok = true) : ∃ k, r = .ok k ∧ i' = i + k ∧ a' = 0 ∧ e' = 0 := by
 cases r with
 | ok k => exact ⟨k, rfl, h.2⟩
 | bad a e => rw [h.1] at hok; cases hok
theorem SRel.f {i i' a' e' : Nat} {r : SR} {ok : Bool} (h : SRel i r ok i' a' e') (hok : ok = false) : ∃ a, r = .bad a e' ∧ a' = i + a := by
 cases r with
 | ok k => rw [h.1] at hok; cases hok
 | bad a e => exact ⟨a, by rw [h.2.2], h.2.1⟩
def ScanC (f : FuncId) (T : TypeId) (b : Nat) (s : List UInt8) (i : Nat) (args : List Value) (r : SR) (I : Look) (F : List HA) (w : World) : Prop :=
 Calls Tryz.prog f (.pointer (some ⟨b, 0, none⟩) :: args).toArray w (fun e w' => ∃ v, e = .returned v ∧ ∃ I' H', (I = I' ∧ ∃ ok i' a' e', v = .bool ok ∧ SRel i r ok i' a' e' ∧ i' ≤ s.length ∧ H' = row b T (scC s i' a' e') :: F) ∧ St w I' H' w')
def DollarOk (n : Nat) : Prop := ∀ (b : Nat) (s : List UInt8) (i d : Nat) (q : Bool) (I : Look) (F : List HA) (w0 w : World), 25 - d = n → d ≤ 30 → s.length ≤ 2305843009213693952 → i + 2 ≤ s.length → St w0 I (row b 205 (scC s i 0 0) :: F) w →
 ScanC 107 205 b s i [.int .i64 (d : Int), .bool q] ((lv n).2 q (s.drop i)) I F w
def DoubleOk (n : Nat) : Prop := ∀ (b : Nat) (s : List UInt8) (i d : Nat) (I : Look) (F : List HA) (w0 w : World), 25 - d = n → d ≤ 30 → s.length ≤ 2305843009213693952 → i < s.length → St w0 I (row b 205 (scC s i 0 0) :: F) w →
 ScanC 106 205 b s i [.int .i64 (d : Int)] ((lv n).1 (s.drop i)) I F w
theorem slIndexByte_pure (s : List UInt8) (c : UInt8) (w : World) : Pure Tryz.prog 41 [str s, u8 c] w (.int .i64 (Lib.indexByte s c)) := by
 refine enter Tryz.func41 rfl Tryz.ntmps41 rfl (St.start w (look w) (Le.refl _)) (trun rfl (tr (l_run 2 rfl (lq rfl (quiet_extern rfl rfl rfl Tryz.func57 (by kernel_rfl) rfl (by kernel_rfl) (show Extern.find _ = some Extern.BytealgIndexByte.indexByte by kernel_rfl) (fun w => run_ibs s c w)) ?_)))); refine lrun rfl (t_ret (n_ret1 rfl rfl (fun w' hw => ?_))); exact ⟨rfl, hw.below⟩
theorem indexByte_pure (s : List UInt8) (c : UInt8) (w : World) : Pure Tryz.prog 28 [str s, u8 c] w (.int .i64 (Lib.indexByte s c)) := by
 refine enter Tryz.func28 rfl Tryz.ntmps28 rfl (St.start w (look w) (Le.refl _)) (trun rfl (tr (l_run 2 rfl (lq rfl (qc rfl rfl rfl (fun w _ => slIndexByte_pure s c w)) (lrun rfl (t_ret (n_ret1 rfl rfl (fun w' hw => ?_)))))))); exact ⟨rfl, hw.below⟩
theorem slHasPrefix_pure (s t : List UInt8) (w : World) : Pure Tryz.prog 84 [str s, str t] w (.bool (stB s t)) := by
 refine enter Tryz.func84 rfl Tryz.ntmps84 rfl (St.start w (look w) (Le.refl _)) (trun rfl (tq (s_run 1 rfl (sq rfl (q_len_str rfl un9 rfl) (s_run 1 rfl (sq rfl (q_len_str rfl un9 rfl) (s_run 2 rfl ?_)))))))
 refine s_and2 6 5 10 17 16 _ _ rfl rfl rfl rfl rfl rfl (fun h17 => by
   simp at h17
   refine s_runG 2 rfl (sg rfl (q_len_str rfl un9 rfl) (sg rfl (q_slice_str_to rfl un9 rfl rfl (by omega)) ?_)); refine s_runG 1 rfl (sg rfl (q_eql_str rfl rfl rfl) ?_); exact s_val rfl
  ) (wanted_n rfl) rfl rfl rfl ?_
 refine s_run 1 rfl (sdn (t_ret (n_ret1 rfl rfl (fun w' hw => ?_)))); refine ⟨?_, hw.below⟩; refine congrArg (fun b => Ending.returned (Value.bool b)) ?_; unfold stB
 by_cases h : t.length ≤ s.length
 ·rw [decide_eq_true (show ((t.length : Int)) ≤ (s.length : Int) by omega), Bool.true_and]; rfl
 ·rw [decide_eq_false (show ¬ ((t.length : Int)) ≤ (s.length : Int) by omega), Bool.false_and]; exact (decide_eq_false (fun e => by have := congrArg List.length e; rw [List.length_take] at this; omega)).symm
theorem hasPrefix_pure (s t : List UInt8) (w : World) : Pure Tryz.prog 63 [str s, str t] w (.bool (stB s t)) := by
 refine enter Tryz.func63 rfl Tryz.ntmps63 rfl (St.start w (look w) (Le.refl _)) (trun rfl (tr (l_run 2 rfl (lq rfl (qc rfl rfl rfl ((fun w _ => slHasPrefix_pure s t w))) (lrun rfl (t_ret (n_ret1 rfl rfl (fun w' hw => ?_)))))))); exact ⟨rfl, hw.below⟩
theorem starts_pure (b : Nat) (s t : List UInt8) (i a e : Nat) (w : World) (hi : i ≤ s.length) (hb : Rowed w b (scC s i a e)) : Pure Tryz.prog 104 [.pointer (some ⟨b, 0, none⟩), str t] w (.bool (stB (s.drop i) t)) := by
 refine enter Tryz.func104 rfl Tryz.ntmps104 rfl (St.start w (look w) (Le.refl _)) (trun rfl (t_seq (t_qdraw mo (by kernel_rfl) (fun _ _ _ _ _ h => h) (s_run 3 rfl (sq rfl ((by exact q_ldr rfl rfl (rd_imm (hb 0 _ rfl)))) ?_))))); refine s_run 3 rfl (sq rfl ((by exact q_ldr rfl rfl (rd_imm (hb 1 _ rfl)))) ?_); refine sq rfl (q_slice_str_from rfl un9 rfl rfl (by omega)) ?_; refine s_run 1 rfl (sq rfl (qc rfl rfl rfl ((fun w _ => hasPrefix_pure (s.drop i) t w))) (s_run 1 rfl (sdn (t_ret (n_ret1 rfl rfl (fun w' hw => ?_)))))); exact ⟨rfl, hw.below⟩
theorem fail_calls (b : Nat) (s : List UInt8) (i a e : Nat) (I : Look) (F : List HA) (w0 w : World) (hw0 : St w0 I (row b 205 (scC s i 0 0) :: F) w) : Calls Tryz.prog 129 [.pointer (some ⟨b, 0, none⟩), .int .i64 (a : Int), .int .i64 (e : Int)].toArray w (fun e1 w' => ∃ v, e1 = .returned v ∧ ∃ I' H', (v = .bool false ∧ I = I' ∧ H' = row b 205 (scC s i a e) :: F) ∧ St w I' H' w') := by
 unfold scC at *; refine enter Tryz.func129 rfl Tryz.ntmps129 rfl (hw0.self) (trun rfl (t_seq (tr (l_run 4 rfl (lq rfl (q_ld rfl rfl (by rfl)) ?_))))); refine lrun rfl (t_cond rfl (fun hc0 => ?_) (fun hc0 => ?_))
 ·simp at hc0
  refine t_region (l_run 3 rfl (lq rfl (q_build (pl := [(_, _), (_, _)]) (cs := ([.int .i64 (a : Int), .int .i64 (e : Int)]).toArray) rfl un203 ti203 ⟨rfl, ⟨_, _, ti3⟩, rfl, ⟨_, _, ti28⟩, trivial⟩ rfl rfl) (l_run 2 rfl (l_e0 rfl rfl ((by exact e_store_agg rfl ti203 rfl rfl rfl (by simp [Value.oneCell', str, u8]) rfl)) ?_)))); rintro _ _ _ ⟨rfl, rfl⟩; refine lnr1 (lrun rfl (t_ret (n_ret1 rfl rfl (fun w' hw => ?_)))); exact ⟨_, rfl, I, _, ⟨rfl, rfl, rfl⟩, hw⟩
 ·simp at hc0
theorem skip_calls (b : Nat) (s : List UInt8) (i n a e : Nat) (I : Look) (F : List HA) (w0 w : World) (hi : i ≤ s.length) (hs : s.length ≤ 2305843009213693952) (hn : n ≤ 2305843009213693952) (hw0 : St w0 I (row b 205 (scC s i a e) :: F) w) : Calls Tryz.prog 130 [.pointer (some ⟨b, 0, none⟩), .int .i64 (n : Int)].toArray w (fun e1 w' => ∃ v, e1 = .returned v ∧ ∃ I' H', (v = .tuple #[] ∧ I = I' ∧ H' = row b 205 (scC s (min (i + n) s.length) a e) :: F) ∧ St w I' H' w') := by
 unfold scC at *; refine enter Tryz.func130 rfl Tryz.ntmps130 rfl (hw0.self) (t_draw [15] [] [] mo (by kernel_rfl) (fun _ _ _ _ _ h => h) (r_run [0, 1, 2, 3] (by kernel_rfl) rfl rfl rfl (rq1 4 (by kernel_rfl) rfl rfl (q_ld rfl rfl (by rfl)) ?_))); refine r_run [5] (by kernel_rfl) rfl rfl rfl (rq1 6 (by kernel_rfl) rfl rfl (q_add64 rfl rfl rfl (by omega)) ?_); refine r_run [7, 8, 9] (by kernel_rfl) rfl rfl rfl (rq1 10 (by kernel_rfl) rfl rfl (q_ld rfl rfl (by rfl)) ?_); refine rq1 11 (by kernel_rfl) rfl rfl (q_len_str rfl un9 rfl) (rq1 12 (by kernel_rfl) rfl rfl (q_min rfl rfl rfl) (r_run [13, 14] (by kernel_rfl) rfl rfl rfl ?_)); refine r_e0 15 (by kernel_rfl) (by kernel_rfl) rfl (Le.refl _) rfl rfl (e_storeS rfl ti3 rfl rfl (by exact ⟨rfl, rfl⟩) rfl (by (simp only [List.set_cons_succ, List.set_cons_zero]; rfl))) ?_; rintro _ _ _ ⟨rfl, rfl⟩; refine ⟨Le.refl _, .inr SubC.sub, ?_⟩; refine r_end (by kernel_rfl) (n_end0 rfl (fun w' hw => ?_))
 have e9 : min ((i : Int) + (n : Int)) (s.length : Int) = ((min (i + n) s.length : Nat) : Int) := by omega
 rw [e9] at hw; exact ⟨_, rfl, I, _, ⟨rfl, rfl, rfl⟩, hw⟩
end Go.Tri

/-
 A scanner: quotes.
-/
namespace Go.Tri
open Go.Proofs Go.RowKit
set_option maxRecDepth 10000
theorem single_ix (l : List UInt8) : (Lib.indexByte l 39 < 0 → Lib.indexByte l 39 = -1) ∧ (¬ Lib.indexByte l 39 < 0 → ∃ m : Nat, Lib.indexByte l 39 = m ∧ m < l.length) := by
 have hge := Lib.indexByte_ge l 39
 refine ⟨fun h => by omega, fun h => ?_⟩; obtain ⟨i, hi⟩ : ∃ i : Nat, Lib.indexByte l 39 = i := ⟨(Lib.indexByte l 39).toNat, by omega⟩; exact ⟨i, hi, (indexByte_some hi).1⟩
theorem dbl_step {D : Bool → List UInt8 → SR} {f : Nat} {l : List UInt8} {r : LR} {j : Nat} (h : r = (dblL D f l).on j) (hl : l ≠ []) (hf : l.length ≤ f) :
  (stB l [34] = true → r = .ok (j + 1)) ∧ (stB l [34] = false → (∀ a e, insideP D true false l = .bad a e → r = .bad (j + a) e) ∧ ∀ k, insideP D true false l = .ok k → r = (dblL D (f - 1) (l.drop k)).on (j + k)) := by
 have hp := List.length_pos_iff.2 hl
 obtain ⟨g, rfl⟩ : ∃ g, f = g + 1 := ⟨f - 1, by omega⟩; refine ⟨fun h1 => ?_, fun h1 => ⟨fun a e h2 => ?_, fun k h2 => ?_⟩⟩
 ·rw [h, dblL, if_neg hl, if_pos h1]; rfl
 ·rw [h, dblL, if_neg hl, if_neg (by rw [h1]; simp), h2]; rfl
 ·rw [h, dblL, if_neg hl, if_neg (by rw [h1]; simp), h2, Nat.add_sub_cancel]; exact LR.on_on _ _ _
theorem drop_ne {s : List UInt8} {i : Nat} (h : i < s.length) : s.drop i ≠ [] := List.ne_nil_of_length_pos (by rw [List.length_drop]; omega)
theorem nth_drop_head (s : List UInt8) (i : Nat) : nth (s.drop i) 0 0 = nth s i 0 := by
 unfold nth; rw [List.getD_eq_getElem?_getD, List.getD_eq_getElem?_getD, List.getElem?_drop]; rfl
theorem nth_drop_one (s : List UInt8) (i : Nat) : nth (s.drop i) 1 0 = nth s (i + 1) 0 := by
 unfold nth; rw [List.getD_eq_getElem?_getD, List.getD_eq_getElem?_getD, List.getElem?_drop]
theorem single_calls (b : Nat) (s : List UInt8) (i : Nat) (I : Look) (F : List HA) (w0 w : World) (hs : s.length ≤ 2305843009213693952) (hi : i < s.length) (hw0 : St w0 I (row b 205 (scC s i 0 0) :: F) w) : ScanC 105 205 b s i [] (singleP (s.drop i)) I F w := by
 refine enter Tryz.func105 rfl Tryz.ntmps105 rfl (hw0.self) (trun rfl (t_seq (t_qdraw mo (by kernel_rfl) (fun _ _ _ _ _ h => h) (s_run 3 rfl (sq rfl (q_ld rfl rfl (by rfl)) ?_))))); refine s_run 3 rfl (sq rfl (q_ld rfl rfl (by rfl)) ?_); refine sq rfl (q_add64 rfl rfl rfl (by omega)) ?_; refine sq rfl (q_slice_str_from rfl un9 rfl rfl (by omega)) ?_; refine sq rfl (qc rfl rfl rfl ((fun w _ => indexByte_pure (s.drop (i + 1)) 39 w))) (s_run 1 rfl (sdn (t_seq (t_seq ?_))))
 have hix := single_ix (s.drop (i + 1))
 have hsp : singleP (s.drop i) = if Lib.indexByte (s.drop (i + 1)) 39 < 0 then .bad 0 53 else .ok ((Lib.indexByte (s.drop (i + 1)) 39).toNat + 2) := by unfold singleP; rw [List.drop_drop]
 refine t_region (lrun rfl (t_cond rfl (fun hc0 => ?_) (fun hc0 => ?_)))
 ·simp at hc0
  rw [if_pos hc0] at hsp; refine tr (l_run 4 rfl (lq rfl (q_ld rfl rfl (by rfl)) ?_)); refine lec rfl rfl rfl rfl (fun w hw => fail_calls b s i i 53 _ _ _ w (picks_st1 (row b 205 (scC s i 0 0)) hw)) ?_; rintro _ _ _ ⟨rfl, rfl, rfl⟩; refine lrun rfl (tret (n_ret1 rfl rfl (fun w' hw => ?_))); exact ⟨_, rfl, I, _, ⟨rfl, false, i, i, 53, rfl, (by rw [hsp]; exact ⟨rfl, rfl, rfl⟩), (by omega), rfl⟩, hw⟩
 ·simp at hc0
  have hc0 : ¬ Lib.indexByte (s.drop (i + 1)) 39 < 0 := by omega
  rw [if_neg hc0] at hsp; obtain ⟨m, hm, hml⟩ := hix.2 hc0; rw [List.length_drop] at hml; rw [hm] at hsp ⊢; refine tskip (tr (l_run 2 rfl (lq rfl (q_add64 rfl rfl rfl (by omega)) ?_))); refine lec rfl rfl rfl rfl (fun w hw => skip_calls b s i (m + 2) 0 0 _ _ _ w (by omega) hs (by omega) (picks_st1 (row b 205 (scC s i 0 0)) hw)) ?_; rintro _ _ _ ⟨rfl, rfl, rfl⟩; refine lnr1 (lrun rfl (t_ret (n_ret1 rfl rfl (fun w' hw => ?_)))); exact ⟨_, rfl, I, _, ⟨rfl, true, (min (i + (m + 2)) s.length), 0, 0, rfl, (by rw [hsp]; exact ⟨rfl, (by show min (i + (m + 2)) s.length = i + (((m : Int)).toNat + 2); omega), rfl, rfl⟩), (by omega), rfl⟩, hw⟩
theorem inside_calls (n : Nat) (hD : DollarOk n) (b : Nat) (s : List UInt8) (i d : Nat) (q apo : Bool) (I : Look) (F : List HA) (w0 w : World) (hn : 24 - d = n) (hd : d ≤ 24) (hs : s.length ≤ 2305843009213693952) (hi : i < s.length) (hw0 : St w0 I (row b 205 (scC s i 0 0) :: F) w) : ScanC 131 205 b s i [.int .i64 (d : Int), .bool q, .bool apo] (insideP (lv n).2 q apo (s.drop i)) I F w := by
 have hdl : (s.drop i).length = s.length - i := List.length_drop
 refine enter Tryz.func131 rfl Tryz.ntmps131 rfl (hw0.self) (trun rfl (t_seq (t_block (tr (l_run 1 rfl (lq rfl (qc rfl rfl rfl ((fun w hw => starts_pure b s [92] i 0 0 w (by omega) (rowed_of hw)))) ?_)))))); refine lrun rfl (t_cond rfl (fun hc0 => ?_) (fun hc0 => ?_))
 ·refine t_region (l_run 1 rfl (lec rfl rfl rfl rfl (fun w hw => skip_calls b s i 2 0 0 _ _ _ w (by omega) hs (by omega) (picks_st1 (row b 205 (scC s i 0 0)) hw)) ?_)); rintro _ _ _ ⟨rfl, rfl, rfl⟩; refine l_nil (n_block (n_then (trun rfl (t_ret (n_ret1 rfl rfl (fun w' hw => ?_)))))); exact ⟨_, rfl, I, _, ⟨rfl, true, (min (i + 2) s.length), 0, 0, rfl, (by rw [insideP, if_pos hc0]; exact ⟨rfl, (by omega), rfl, rfl⟩), (by omega), rfl⟩, hw⟩
 ·refine tq (s_run 1 rfl (sq rfl (qc rfl rfl rfl ((fun w hw => starts_pure b s [39] i 0 0 w (by omega) (rowed_of hw)))) ?_)); refine s_run 1 rfl ?_
  refine s_and2 1 2 19 21 20 _ _ rfl rfl rfl rfl rfl rfl (fun h21 => by
    refine s_runG 1 rfl ?_; exact s_val rfl
   ) (wanted_n rfl) rfl rfl rfl ?_
  refine s_run 1 rfl (sdn (t_cond rfl (fun hc1 => ?_) (fun hc1 => ?_)))
  ·refine tr (l_run 1 rfl (lec rfl rfl rfl rfl (fun w hw => single_calls b s i _ _ _ w hs hi (picks_st1 (row b 205 (scC s i 0 0)) hw)) ?_)); rintro _ _ _ ⟨rfl, ok23, i23, a23, e23, rfl, hr23, hi23, rfl⟩; refine lrun rfl (tret (n_ret1 rfl rfl (fun w' hw => ?_))); exact ⟨_, rfl, I, _, ⟨rfl, ok23, i23, a23, e23, rfl, (by rw [insideP, if_neg (by rw [hc0]; simp), if_pos hc1]; exact hr23), hi23, rfl⟩, hw⟩
  ·refine tr (l_run 1 rfl (lq rfl (qc rfl rfl rfl ((fun w hw => starts_pure b s [96] i 0 0 w (by omega) (rowed_of hw)))) ?_)); refine lrun rfl (t_cond rfl (fun hc2 => ?_) (fun hc2 => ?_))
   ·refine tr (l_run 4 rfl (lq rfl (q_ld rfl rfl (by rfl)) ?_)); refine lec rfl rfl rfl rfl (fun w hw => fail_calls b s i i 55 _ _ _ w (picks_st1 (row b 205 (scC s i 0 0)) hw)) ?_; rintro _ _ _ ⟨rfl, rfl, rfl⟩; refine lrun rfl (tret (n_ret1 rfl rfl (fun w' hw => ?_))); exact ⟨_, rfl, I, _, ⟨rfl, false, i, i, 55, rfl, (by rw [insideP, if_neg (by rw [hc0]; simp), if_neg (fun h => by rw [h] at hc1; cases hc1), if_pos hc2]; exact ⟨rfl, rfl, rfl⟩), (by omega), rfl⟩, hw⟩
   ·refine tq (s_run 1 rfl (sq rfl (qc rfl rfl rfl ((fun w hw => starts_pure b s [36, 40] i 0 0 w (by omega) (rowed_of hw)))) ?_)); refine s_run 1 rfl ?_
    refine s_or2 2 2 36 39 38 _ _ rfl rfl rfl rfl rfl rfl (fun h39 => by
      refine s_runG 1 rfl (sg rfl (qc rfl rfl rfl ((fun w hw => starts_pure b s [36, 123] i 0 0 w (by omega) (rowed_of hw)))) ?_); exact s_val rfl
     ) (wanted_n rfl) rfl rfl rfl ?_
    refine s_run 1 rfl (sdn (t_cond rfl (fun hc3 => ?_) (fun hc3 => ?_)))
    ·have h2l : i + 2 ≤ s.length := by
      have h3 : (stB (s.drop i) [36, 40] || stB (s.drop i) [36, 123]) = true := hc3
      rw [Bool.or_eq_true] at h3
      rcases h3 with h3 | h3 <;> (have := stB_len h3; simp at this; omega)
     refine tr (l_run 2 rfl (lq rfl (q_add64 rfl rfl rfl (by omega)) ?_)); refine l_run 1 rfl (lec rfl rfl rfl rfl (fun w hw => hD b s i (d + 1) q _ _ _ w (by omega) (by omega) hs h2l (picks_st1 (row b 205 (scC s i 0 0)) hw)) ?_); rintro _ _ _ ⟨rfl, ok44, i44, a44, e44, rfl, hr44, hi44, rfl⟩; refine lrun rfl (tret (n_ret1 rfl rfl (fun w' hw => ?_))); exact ⟨_, rfl, I, _, ⟨rfl, ok44, i44, a44, e44, rfl, (by rw [insideP, if_neg (by rw [hc0]; simp), if_neg (fun h => by rw [h] at hc1; cases hc1), if_neg (by rw [hc2]; simp), if_pos hc3]; exact hr44), hi44, rfl⟩, hw⟩
    ·refine t_region (l_run 1 rfl (lec rfl rfl rfl rfl (fun w hw => skip_calls b s i 1 0 0 _ _ _ w (by omega) hs (by omega) (picks_st1 (row b 205 (scC s i 0 0)) hw)) ?_)); rintro _ _ _ ⟨rfl, rfl, rfl⟩; refine l_nil (n_block (n_then (trun rfl (t_ret (n_ret1 rfl rfl (fun w' hw => ?_)))))); exact ⟨_, rfl, I, _, ⟨rfl, true, (min (i + 1) s.length), 0, 0, rfl, (by rw [insideP, if_neg (by rw [hc0]; simp), if_neg (fun h => by rw [h] at hc1; cases hc1), if_neg (by rw [hc2]; simp), if_neg (fun h => by rw [h] at hc3; cases hc3)]; exact ⟨rfl, (by omega), rfl, rfl⟩), (by omega), rfl⟩, hw⟩
theorem double_calls (m : Nat) (hD : ∀ n, m = n + 1 → DollarOk n) (b : Nat) (s : List UInt8) (i d : Nat) (I : Look) (F : List HA) (w0 w : World) (hm : 25 - d = m) (hd : d ≤ 30) (hs : s.length ≤ 2305843009213693952) (hi : i < s.length) (hw0 : St w0 I (row b 205 (scC s i 0 0) :: F) w) : ScanC 106 205 b s i [.int .i64 (d : Int)] ((lv m).1 (s.drop i)) I F w := by
 refine enter Tryz.func106 rfl Tryz.ntmps106 rfl (hw0.self) (trun rfl (tr (l_run 3 rfl (lq rfl (q_ld rfl rfl (by rfl)) ?_)))); refine lrun rfl (t_seq (trun rfl (t_cond rfl (fun hc0 => ?_) (fun hc0 => ?_))))
 ·simp at hc0
  obtain rfl : m = 0 := by omega
  refine tr (l_run 2 rfl (lec rfl rfl rfl rfl (fun w hw => fail_calls b s i i 52 _ _ _ w (picks_st1 (row b 205 (scC s i 0 0)) hw)) ?_)); rintro _ _ _ ⟨rfl, rfl, rfl⟩; refine lrun rfl (tret (n_ret1 rfl rfl (fun w' hw => ?_))); exact ⟨_, rfl, I, _, ⟨rfl, false, i, i, 52, rfl, (by exact ⟨rfl, rfl, rfl⟩), (by omega), rfl⟩, hw⟩
 ·simp at hc0
  obtain ⟨n, rfl⟩ : ∃ n, m = n + 1 := ⟨m - 1, by omega⟩
  have hlv : (lv (n + 1)).1 (s.drop i) = (dblL (lv n).2 (s.drop i).length (s.drop (i + 1))).close 1 53 := by show dblP _ _ = _; unfold dblP; rw [List.drop_drop]
  refine tskip (t_seq (tr (l_run 1 rfl (lec rfl rfl rfl rfl (fun w hw => skip_calls b s i 1 0 0 _ _ _ w (by omega) hs (by omega) (picks_st1 (row b 205 (scC s i 0 0)) hw)) ?_)))); rintro _ _ _ ⟨rfl, rfl, rfl⟩; refine ln (t_block (t_loopE (ι := Nat × Nat) (fun zz => i + 1 ≤ zz.1 ∧ zz.1 ≤ s.length ∧ dblL (lv n).2 (s.drop i).length (s.drop (i + 1)) = (dblL (lv n).2 zz.2 (s.drop zz.1)).on (zz.1 - (i + 1)) ∧ (s.drop zz.1).length ≤ zz.2) (fun zz => s.length - zz.1) (fun zz => []) [(0, _), (1, _), (5, _), (11, _)] (fun zz => I) (fun zz => (row b 205 (scC s zz.1 0 0) :: F)) (i + 1, (s.drop i).length) ?_ (sub_nil) (sub_rfl rfl) (fun _ h => by dsimp only; rw [show min (i + 1) s.length = i + 1 by omega] at h; exact subC_st h) ?_))
  ·dsimp only; refine ⟨Nat.le_refl _, by omega, by rw [Nat.sub_self, LR.on_zero], by rw [List.length_drop, List.length_drop]; omega⟩
  rintro ⟨j, g⟩ ⟨hj1, hj2, hx, hfl⟩; dsimp only at *; refine t_seq (t_seq (t_qdraw mo (by kernel_rfl) (fun _ _ _ _ _ h => h) (s_run 3 rfl (sq rfl (q_ld rfl rfl (by rfl)) ?_)))); refine s_run 3 rfl (sq rfl (q_ld rfl rfl (by rfl)) ?_); refine sq rfl (q_len_str rfl un9 rfl) (s_run 1 rfl (sdn (t_cond rfl (fun hc1 => ?_) (fun hc1 => ?_))))
  ·simp at hc1
   have hj : j < s.length := by omega
   have hst := dbl_step hx (drop_ne hj) hfl
   refine tskip (t_block (t_seq (tr (l_run 1 rfl (lq rfl (qc rfl rfl rfl ((fun w hw => starts_pure b s [34] j 0 0 w (by omega) (rowed_of hw)))) ?_))))); refine ln (t_cond rfl (fun hc2 => ?_) (fun hc2 => ?_))
   ·have hok := hst.1 hc2
    refine tr (l_run 1 rfl (lec rfl rfl rfl rfl (fun w hw => skip_calls b s j 1 0 0 _ _ _ w (by omega) hs (by omega) (picks_st1 (row b 205 (scC s j 0 0)) hw)) ?_)); rintro _ _ _ ⟨rfl, rfl, rfl⟩; refine lnr1 (lrun rfl (tret (n_ret1 rfl rfl (fun w' hw => ?_)))); exact ⟨_, rfl, I, _, ⟨rfl, true, (min (j + 1) s.length), 0, 0, rfl, (by rw [hlv, hok]; exact ⟨rfl, (by show _ = i + (1 + (j - (i + 1) + 1)); omega), rfl, rfl⟩), (by omega), rfl⟩, hw⟩
   ·have hno := hst.2 hc2
    have hfit := insideP_fit (dlr := (lv n).2) (q := true) (apo := false) (lv_fit n).2 (drop_ne hj)
    refine tskip (tr (l_run 2 rfl (lec rfl rfl rfl rfl (fun w hw => inside_calls n (hD n rfl) b s j d true false _ _ _ w (by omega) (by omega) hs hj (picks_st1 (row b 205 (scC s j 0 0)) hw)) ?_))); rintro _ _ _ ⟨rfl, ok33, i33, a33, e33, rfl, hr33, hi33, rfl⟩; refine lrun rfl (t_cond rfl (fun hc3 => ?_) (fun hc3 => ?_))
    ·have hk33 : ok33 = false := by simpa using hc3
     obtain ⟨a, h1, h2⟩ := hr33.f hk33
     have h3 := hno.1 a e33 h1
     refine trun rfl (tret (n_ret1 rfl rfl (fun w' hw => ?_))); exact ⟨_, rfl, I, _, ⟨rfl, false, i33, a33, e33, rfl, (by rw [hlv, h3]; exact ⟨rfl, (by show _ = i + (1 + (j - (i + 1) + a)); omega), rfl⟩), hi33, rfl⟩, hw⟩
    ·have hk33 : ok33 = true := by simpa using hc3
     obtain ⟨k, h1, rfl, rfl, rfl⟩ := hr33.t hk33
     have h3 := hno.2 k h1
     rw [h1] at hfit; rw [List.drop_drop] at h3; refine t_skip (n_block (n_roundE ((j + k, g - 1)) ?_ ?_ (sub_nil) (sub_rfl rfl) (fun _ h => by dsimp only; exact subC_st h)))
     ·dsimp only; refine ⟨by omega, hi33, by rw [h3]; congr 1; omega, ?_⟩
      have h4 : 1 ≤ k := hfit.1
      rw [List.length_drop] at hfl ⊢
      omega
     ·dsimp only
      have h4 : 1 ≤ k := hfit.1
      show s.length - (j + k) < s.length - j
      omega
  ·simp at hc1
   obtain rfl : j = s.length := by omega
   rw [List.drop_length, dblL_end] at hx; refine t_exit (n_exit_then (n_exit_then (n_exit_block (n_then (tr (l_run 2 rfl (lec rfl rfl rfl rfl (fun w hw => fail_calls b s s.length i 53 _ _ _ w (picks_st1 (row b 205 (scC s s.length 0 0)) hw)) ?_))))))); rintro _ _ _ ⟨rfl, rfl, rfl⟩; refine lrun rfl (t_ret (n_ret1 rfl rfl (fun w' hw => ?_))); exact ⟨_, rfl, I, _, ⟨rfl, false, s.length, i, 53, rfl, (by rw [hlv, hx]; exact ⟨rfl, rfl, rfl⟩), (by omega), rfl⟩, hw⟩
end Go.Tri

/-
 A scanner: substitutions.
-/
namespace Go.Tri
open Go.Proofs Go.RowKit
set_option maxRecDepth 10000
def closeB (br : Bool) (o : Nat) (b : UInt8) : Bool := br && decide (b = 125) || (!br && decide (b = 41) && decide (o = 0))
theorem dlr_step {B : List UInt8 → SR} {D : Bool → List UInt8 → SR} {br q : Bool} {f o : Nat} {l : List UInt8} {r : LR} {j : Nat} (h : r = (dlrL B D br q f o l).on j) (hl : l ≠ []) (hf : l.length ≤ f) :
  (nth l 0 0 = 34 → (∀ a e, B l = .bad a e → r = .bad (j + a) e) ∧ ∀ k, B l = .ok k → r = (dlrL B D br q (f - 1) o (l.drop k)).on (j + k)) ∧
  (nth l 0 0 ≠ 34 → (closeB br o (nth l 0 0) = true → r = .ok (j + 1)) ∧ (closeB br o (nth l 0 0) = false → (∀ a e, insideP D q (!q) l = .bad a e → r = .bad (j + a) e) ∧ ∀ k, insideP D q (!q) l = .ok k → r = (dlrL B D br q (f - 1) (opens br o (nth l 0 0)) (l.drop k)).on (j + k))) := by
 have hp := List.length_pos_iff.2 hl
 obtain ⟨g, rfl⟩ : ∃ g, f = g + 1 := ⟨f - 1, by omega⟩; refine ⟨fun h1 => ⟨fun a e h2 => ?_, fun k h2 => ?_⟩, fun h1 => ⟨fun h2 => ?_, fun h2 => ⟨fun a e h3 => ?_, fun k h3 => ?_⟩⟩⟩
 ·rw [h, dlrL, if_neg hl, if_pos h1, h2]; rfl
 ·rw [h, dlrL, if_neg hl, if_pos h1, h2, Nat.add_sub_cancel]; exact LR.on_on _ _ _
 ·rw [closeB] at h2
  rw [h, dlrL, if_neg hl, if_neg h1, if_pos h2]; rfl
 ·rw [h, dlrL, if_neg hl, if_neg h1, if_neg (fun h => by rw [closeB, h] at h2; cases h2), h3]; rfl
 ·rw [h, dlrL, if_neg hl, if_neg h1, if_neg (fun h => by rw [closeB, h] at h2; cases h2), h3, Nat.add_sub_cancel]; exact LR.on_on _ _ _
theorem opens_pos {br : Bool} {o : Nat} {b : UInt8} (h : closeB br o b = false) (h2 : (!br && decide (b = 41)) = true) : 1 ≤ o := by
 unfold closeB at h; rw [Bool.and_eq_true] at h2; rw [h2.1, h2.2] at h; rcases Nat.eq_zero_or_pos o with h3 | h3
 ·subst h3; simp at h
 ·exact h3
theorem close_or {br : Bool} {o : Nat} {b : UInt8} (h : (!br && decide (b = 41) && decide ((o : Int) = 0)) = true) : closeB br o b = true := by
 unfold closeB; rw [Bool.or_eq_true]
 right
 rw [Bool.and_eq_true, decide_eq_true_eq] at h ⊢; exact ⟨h.1, by omega⟩
theorem close_not {br : Bool} {o : Nat} {b : UInt8} (h1 : (br && decide (b = 125)) = false) (h : (!br && decide (b = 41) && decide ((o : Int) = 0)) = false) : closeB br o b = false := by
 unfold closeB; rw [h1, Bool.false_or]
 cases hx : (!br && decide (b = 41)) with
 | false => rfl
 | true =>
  rw [hx, Bool.true_and, decide_eq_false_iff_not] at h; rw [Bool.true_and, decide_eq_false_iff_not]
  omega
theorem dollar_calls (m : Nat) (hD : ∀ n, m = n + 1 → DoubleOk n ∧ DollarOk n) (b : Nat) (s : List UInt8) (i d : Nat) (q : Bool) (I : Look) (F : List HA) (w0 w : World) (hm : 25 - d = m) (hd : d ≤ 30) (hs : s.length ≤ 2305843009213693952) (hi : i + 2 ≤ s.length) (hw0 : St w0 I (row b 205 (scC s i 0 0) :: F) w) : ScanC 107 205 b s i [.int .i64 (d : Int), .bool q] ((lv m).2 q (s.drop i)) I F w := by
 refine enter Tryz.func107 rfl Tryz.ntmps107 rfl (hw0.self) (trun rfl (t_scope rfl (t_seq (t_qdraw mo (by kernel_rfl) (fun _ _ _ _ _ h => h) (s_run 3 rfl (sq rfl (q_ld rfl rfl (by rfl)) ?_)))))); refine s_run 3 rfl (sq rfl (q_ld rfl rfl (by rfl)) ?_); refine s_run 3 rfl (sq rfl (q_ld rfl rfl (by rfl)) ?_); refine sq rfl (q_add64 rfl rfl rfl (by omega)) ?_; refine sq rfl ((by exact q_index_str rfl un9 rfl rfl (by omega))) ?_; refine sq rfl (q_eql_u8c rfl rfl rfl rfl) (s_run 3 rfl (sdn (t_seq (trun rfl (t_cond rfl (fun hc0 => ?_) (fun hc0 => ?_))))))
 ·simp at hc0
  obtain rfl : m = 0 := by omega
  refine tr (l_run 2 rfl (lec rfl rfl rfl rfl (fun w hw => fail_calls b s i i 52 _ _ _ w (picks_st1 (row b 205 (scC s i 0 0)) hw)) ?_)); rintro _ _ _ ⟨rfl, rfl, rfl⟩; refine lrun rfl (t_ret (n_ret_then (n_ret_scope (n_ret1 rfl rfl (fun w' hw => ?_))))); exact ⟨_, rfl, I, _, ⟨rfl, false, i, i, 52, rfl, (by exact ⟨rfl, rfl, rfl⟩), (by omega), rfl⟩, hw⟩
 ·simp at hc0
  obtain ⟨n, rfl⟩ : ∃ n, m = n + 1 := ⟨m - 1, by omega⟩; refine tskip (t_cutE (ι := Bool) (fun zz => zz = braceB (s.drop i)) (fun zz => [(2, .bool (q && zz)), (8, .bool zz)]) [(0, _), (1, _), (6, _), (7, _), (9, _), (27, _)] (fun zz => I) (fun zz => (row b 205 (scC s i 0 0) :: F)) (sub_rfl rfl) ?_ ?_)
  ·refine t_qreg (s_run 2 rfl ?_)
   refine s_and2 1 1 32 34 33 _ _ rfl rfl rfl rfl rfl rfl (fun h34 => by
     refine s_runG 1 rfl ?_; exact s_val rfl
    ) (wanted_n rfl) rfl rfl rfl ?_
   refine s_run 1 rfl (s_done (n_cut (braceB (s.drop i)) ?_ (sub_cons' rfl (by unfold braceB; rw [nth_drop_one]; rfl) (sub_cons' rfl (by unfold braceB; rw [nth_drop_one]; rfl) (sub_nil))) (sub_rfl rfl) (fun _ h => by dsimp only; exact subC_st h)))
   ·dsimp only
    all_goals rfl
  rintro br hbr
  have hlv : (lv (n + 1)).2 q (s.drop i) = (dlrL (lv n).1 (lv n).2 br (q && br) (s.drop i).length 0 (s.drop (i + 2))).close 2 53 := by show dlrP _ _ _ _ = _; unfold dlrP; rw [List.drop_drop, ← hbr]
  refine tr (l_run 1 rfl (lec rfl rfl rfl rfl (fun w hw => skip_calls b s i 2 0 0 _ _ _ w (by omega) hs (by omega) (picks_st1 (row b 205 (scC s i 0 0)) hw)) ?_)); rintro _ _ _ ⟨rfl, rfl, rfl⟩; refine lnt ?_
  first | refine t_label ?_ | refine t_skip ?_
  refine n_then (t_seq (t_block (t_loopE (ι := Nat × Nat × Nat) (fun zz => i + 2 ≤ zz.1 ∧ zz.1 ≤ s.length ∧ dlrL (lv n).1 (lv n).2 br (q && br) (s.drop i).length 0 (s.drop (i + 2)) = (dlrL (lv n).1 (lv n).2 br (q && br) zz.2.2 zz.2.1 (s.drop zz.1)).on (zz.1 - (i + 2)) ∧ (s.drop zz.1).length ≤ zz.2.2 ∧ zz.2.1 ≤ zz.1) (fun zz => s.length - zz.1) (fun zz => [(9, .int .i64 (zz.2.1 : Int))]) [(2, _), (8, _), (0, _), (1, _), (7, _), (27, _)] (fun zz => I) (fun zz => (row b 205 (scC s zz.1 0 0) :: F)) (i + 2, 0, (s.drop i).length) ?_ (sub_rfl rfl) (sub_rfl rfl) (fun _ h => by dsimp only; rw [show min (i + 2) s.length = i + 2 by omega] at h; exact subC_st h) ?_)))
  ·dsimp only; refine ⟨Nat.le_refl _, by omega, by rw [Nat.sub_self, LR.on_zero], by rw [List.length_drop, List.length_drop]; omega, Nat.zero_le _⟩
  rintro ⟨j, o, g⟩ ⟨hj1, hj2, hx, hfl, hoj⟩; dsimp only at *; refine t_seq (t_seq (t_qdraw mo (by kernel_rfl) (fun _ _ _ _ _ h => h) (s_run 3 rfl (sq rfl (q_ld rfl rfl (by rfl)) ?_)))); refine s_run 3 rfl (sq rfl (q_ld rfl rfl (by rfl)) ?_); refine sq rfl (q_len_str rfl un9 rfl) (s_run 1 rfl (sdn (t_cond rfl (fun hc1 => ?_) (fun hc1 => ?_))))
  ·simp at hc1
   have hj : j < s.length := by omega
   have hstp := dlr_step hx (drop_ne hj) hfl
   refine tskip (t_block (t_cutE (ι := Nat) (fun zz => zz = opens br o (nth s j 0) ∧ nth s j 0 ≠ 34 ∧ closeB br o (nth s j 0) = false ∧ zz ≤ j + 1) (fun zz => [(9, .int .i64 (zz : Int))]) [(2, _), (8, _), (0, _), (1, _), (7, _), (27, _), (46, _)] (fun zz => I) (fun zz => (row b 205 (scC s j 0 0) :: F)) (sub_rfl rfl) ?_ ?_))
   ·refine t_seq (t_qdraw mo (by kernel_rfl) (fun _ _ _ _ _ h => h) (s_run 3 rfl (sq rfl (q_ld rfl rfl (by rfl)) ?_))); refine s_run 3 rfl (sq rfl (q_ld rfl rfl (by rfl)) ?_); refine sq rfl ((by exact q_index_strN rfl un9 rfl rfl (by omega))) ?_; refine s_run 1 rfl (sdn (t_block (tr (l_run 1 rfl (lq rfl (q_eql_u8c rfl rfl rfl rfl) (lrun rfl (t_cond rfl (fun hc2 => ?_) (fun hc2 => ?_))))))))
    ·simp only [decide_eq_true_eq, decide_eq_false_iff_not] at hc2
     have hc2 : nth s j 0 = 34 := hc2
     have hno := hstp.1 (by rw [nth_drop_head]; exact hc2)
     have hfit := (lv_fit n).1 _ (drop_ne hj)
     refine t_seq (tr (l_run 2 rfl (lq rfl (q_add64 rfl rfl rfl (by omega)) ?_))); refine lec rfl rfl rfl rfl (fun w hw => (hD n rfl).1 b s j (d + 1) _ _ _ w (by omega) (by omega) hs hj (picks_st1 (row b 205 (scC s j 0 0)) hw)) ?_; rintro _ _ _ ⟨rfl, ok62, i62, a62, e62, rfl, hr62, hi62, rfl⟩; refine lrun rfl (t_cond rfl (fun hc3 => ?_) (fun hc3 => ?_))
     ·have hk : ok62 = false := by simpa using hc3
      obtain ⟨a, h1, h2⟩ := hr62.f hk
      have h3 := hno.1 a e62 h1
      refine trun rfl (t_ret (n_ret_then (n_ret_block (n_ret_then (n_ret_block (n_ret_then (n_ret_block (n_ret_then (n_ret_scope ?_))))))))); refine n_ret1 rfl rfl (fun w' hw => ?_); exact ⟨_, rfl, I, _, ⟨rfl, false, i62, a62, e62, rfl, (by rw [hlv, h3]; exact ⟨rfl, (by show _ = i + (2 + (j - (i + 2) + a)); omega), rfl⟩), hi62, rfl⟩, hw⟩
     ·have hk : ok62 = true := by simpa using hc3
      obtain ⟨k, h1, rfl, rfl, rfl⟩ := hr62.t hk
      have h3 := hno.2 k h1
      rw [h1] at hfit; rw [List.drop_drop] at h3; refine tskip (t_exit (n_exit_other rfl (n_exit_then (n_exit_block (n_roundE ((j + k, o, g - 1)) ?_ ?_ (sub_rfl rfl) (sub_rfl rfl) (fun _ h => by dsimp only; exact subC_st h))))))
      ·dsimp only
       have h4 : 1 ≤ k := hfit.1
       refine ⟨by omega, hi62, by rw [h3]; congr 1; omega, ?_, by omega⟩; rw [List.length_drop] at hfl ⊢
       omega
      ·dsimp only
       have h4 : 1 ≤ k := hfit.1
       show s.length - (j + k) < s.length - j
       omega
    ·simp only [decide_eq_true_eq, decide_eq_false_iff_not] at hc2
     have hc2 : ¬ nth s j 0 = 34 := hc2
     refine t_seq (tq (s_run 2 rfl ?_))
     refine s_and2 2 1 66 69 68 _ _ rfl rfl rfl rfl rfl rfl (fun h69 => by
       refine s_runG 1 rfl (sg rfl (q_eql_u8c rfl rfl rfl rfl) ?_); exact s_val rfl
      ) (wanted_n rfl) rfl rfl rfl ?_
     refine s_run 1 rfl (sdn (t_cond rfl (fun hc4 => ?_) (fun hc4 => ?_)))
     ·refine tskip (t_cond rfl (fun hc5 => ?_) (fun hc5 => ?_))
      ·have hcl : closeB br o (nth s j 0) = true := by rw [closeB, Bool.or_eq_true]; exact .inl hc4
       have hok := (hstp.2 (by rw [nth_drop_head]; exact hc2)).1 (by rw [nth_drop_head]; exact hcl)
       refine tr (l_run 1 rfl (lec rfl rfl rfl rfl (fun w hw => skip_calls b s j 1 0 0 _ _ _ w (by omega) hs (by omega) (picks_st1 (row b 205 (scC s j 0 0)) hw)) ?_)); rintro _ _ _ ⟨rfl, rfl, rfl⟩; refine lnr1 (lrun rfl (t_ret (n_ret_block (n_ret_then (n_ret_block (n_ret_then (n_ret_block (n_ret_then (n_ret_scope ?_))))))))); refine n_ret1 rfl rfl (fun w' hw => ?_); exact ⟨_, rfl, I, _, ⟨rfl, true, (min (j + 1) s.length), 0, 0, rfl, (by rw [hlv, hok]; exact ⟨rfl, (by show _ = i + (2 + (j - (i + 2) + 1)); omega), rfl, rfl⟩), (by omega), rfl⟩, hw⟩
      ·exfalso
       rw [hc4] at hc5
       cases hc5
     ·refine t_qreg (s_run 3 rfl ?_)
      refine s_and2 2 2 72 75 74 _ _ rfl rfl rfl rfl rfl rfl (fun h75 => by
        simp at h75
        refine s_runG 1 rfl (sg rfl (q_eql_u8c rfl rfl rfl rfl) ?_); exact s_val rfl
       ) (wanted_n rfl) rfl rfl rfl ?_
      refine s_run 1 rfl ?_
      refine s_and2 2 6 76 79 78 _ _ rfl rfl rfl rfl rfl rfl (fun h79 => by
        simp at h79
        refine s_runG 2 rfl ?_; exact s_val rfl
       ) (wanted_n rfl) rfl rfl rfl ?_
      refine s_run 1 rfl (sdn (t_cond rfl (fun hc6 => ?_) (fun hc6 => ?_)))
      ·have hcl : closeB br o (nth s j 0) = true := close_or hc6
       have hok := (hstp.2 (by rw [nth_drop_head]; exact hc2)).1 (by rw [nth_drop_head]; exact hcl)
       refine tr (l_run 1 rfl (lec rfl rfl rfl rfl (fun w hw => skip_calls b s j 1 0 0 _ _ _ w (by omega) hs (by omega) (picks_st1 (row b 205 (scC s j 0 0)) hw)) ?_)); rintro _ _ _ ⟨rfl, rfl, rfl⟩; refine lnr1 (lrun rfl (t_ret (n_ret_block (n_ret_then (n_ret_block (n_ret_then (n_ret_block (n_ret_then (n_ret_scope ?_))))))))); refine n_ret1 rfl rfl (fun w' hw => ?_); exact ⟨_, rfl, I, _, ⟨rfl, true, (min (j + 1) s.length), 0, 0, rfl, (by rw [hlv, hok]; exact ⟨rfl, (by show _ = i + (2 + (j - (i + 2) + 1)); omega), rfl, rfl⟩), (by omega), rfl⟩, hw⟩
      ·have hcl : closeB br o (nth s j 0) = false := close_not hc4 hc6
       refine tq (s_run 3 rfl ?_)
       refine s_and2 2 2 85 88 87 _ _ rfl rfl rfl rfl rfl rfl (fun h88 => by
         simp at h88
         refine s_runG 1 rfl (sg rfl (q_eql_u8c rfl rfl rfl rfl) ?_); exact s_val rfl
        ) (wanted_n rfl) rfl rfl rfl ?_
       refine s_run 1 rfl (sdn (t_cond rfl (fun hc7 => ?_) (fun hc7 => ?_)))
       ·have hc7 : (!br && decide (nth s j 0 = 41)) = true := hc7
        refine t_region (l_run 1 rfl (lq rfl (q_sub64 rfl rfl rfl (by omega)) ?_)); refine l_runA rfl (n_block (n_cut (o - 1) ?_ (sub_cons' rfl (congrArg (Value.int IntKind.i64) (by have := opens_pos hcl hc7; omega)) (sub_nil)) (sub_rfl rfl) (fun _ h => by dsimp only; exact subC_st h)))
        ·refine ⟨by rw [opens, if_pos hc7], hc2, hcl, by omega⟩
       ·have hc7 : (!br && decide (nth s j 0 = 41)) = false := hc7
        refine tq (s_run 3 rfl ?_)
        refine s_and2 2 2 94 97 96 _ _ rfl rfl rfl rfl rfl rfl (fun h97 => by
          simp at h97
          refine s_runG 1 rfl (sg rfl (q_eql_u8c rfl rfl rfl rfl) ?_); exact s_val rfl
         ) (wanted_n rfl) rfl rfl rfl ?_
        refine s_run 1 rfl (sdn (t_cond rfl (fun hc8 => ?_) (fun hc8 => ?_)))
        ·have hc8 : (!br && decide (nth s j 0 = 40)) = true := hc8
         refine t_region (l_run 1 rfl (lq rfl (q_add64 rfl rfl rfl (by omega)) ?_)); refine l_runA rfl (n_block (n_cut (o + 1) ?_ (sub_rfl rfl) (sub_rfl rfl) (fun _ h => by dsimp only; exact subC_st h)))
         ·refine ⟨by rw [opens, if_neg (fun h => by rw [h] at hc7; cases hc7), if_pos hc8], hc2, hcl, by omega⟩
        ·have hc8 : (!br && decide (nth s j 0 = 40)) = false := hc8
         refine t_skip (n_block (n_cut (o) ?_ (sub_rfl rfl) (sub_rfl rfl) (fun _ h => by dsimp only; exact subC_st h)))
         ·refine ⟨by rw [opens, if_neg (fun h => by rw [h] at hc7; cases hc7), if_neg (fun h => by rw [h] at hc8; cases hc8)], hc2, hcl, by omega⟩
   rintro o2 ⟨ho2, hc34, hcl, hob2⟩; rw [nth_drop_head] at hstp
   have hno := (hstp.2 hc34).2 hcl
   have hfit := insideP_fit (dlr := (lv n).2) (q := (q && br)) (apo := !(q && br)) (lv_fit n).2 (drop_ne hj)
   refine tr (l_run 5 rfl (lec rfl rfl rfl rfl (fun w hw => inside_calls n (hD n rfl).2 b s j d (q && br) (!(q && br)) _ _ _ w (by omega) (by omega) hs hj (picks_st1 (row b 205 (scC s j 0 0)) hw)) ?_)); rintro _ _ _ ⟨rfl, ok105, i105, a105, e105, rfl, hr105, hi105, rfl⟩; refine lrun rfl (t_cond rfl (fun hc9 => ?_) (fun hc9 => ?_))
   ·have hk : ok105 = false := by simpa using hc9
    obtain ⟨a, h1, h2⟩ := hr105.f hk
    have h3 := hno.1 a e105 h1
    refine trun rfl (t_ret (n_ret_block (n_ret_then (n_ret_block (n_ret_then (n_ret_scope (n_ret1 rfl rfl (fun w' hw => ?_)))))))); exact ⟨_, rfl, I, _, ⟨rfl, false, i105, a105, e105, rfl, (by rw [hlv, h3]; exact ⟨rfl, (by show _ = i + (2 + (j - (i + 2) + a)); omega), rfl⟩), hi105, rfl⟩, hw⟩
   ·have hk : ok105 = true := by simpa using hc9
    obtain ⟨k, h1, rfl, rfl, rfl⟩ := hr105.t hk
    have h3 := hno.2 k h1
    rw [h1] at hfit; rw [List.drop_drop, ← ho2] at h3; refine t_skip (n_block (n_roundE ((j + k, o2, g - 1)) ?_ ?_ (sub_rfl rfl) (sub_rfl rfl) (fun _ h => by dsimp only; exact subC_st h)))
    ·dsimp only
     have h4 : 1 ≤ k := hfit.1
     refine ⟨by omega, hi105, by rw [h3]; congr 1; omega, ?_, by omega⟩; rw [List.length_drop] at hfl ⊢
     omega
    ·dsimp only
     have h4 : 1 ≤ k := hfit.1
     show s.length - (j + k) < s.length - j
     omega
  ·simp at hc1
   obtain rfl : j = s.length := by omega
   rw [List.drop_length, dlrL_end] at hx; refine t_exit (n_exit_then (n_exit_then (n_exit_block (n_then (tr (l_run 2 rfl (lec rfl rfl rfl rfl (fun w hw => fail_calls b s s.length i 53 _ _ _ w (picks_st1 (row b 205 (scC s s.length 0 0)) hw)) ?_))))))); rintro _ _ _ ⟨rfl, rfl, rfl⟩; refine lrun rfl (t_ret (n_ret_scope (n_ret1 rfl rfl (fun w' hw => ?_)))); exact ⟨_, rfl, I, _, ⟨rfl, false, s.length, i, 53, rfl, (by rw [hlv, hx]; exact ⟨rfl, rfl, rfl⟩), (by omega), rfl⟩, hw⟩
theorem both_ok : ∀ m, DoubleOk m ∧ DollarOk m
 | 0 => ⟨fun b s i d I F w0 w h1 h2 h3 h4 h5 => double_calls 0 (fun n h => by cases h) b s i d I F w0 w h1 h2 h3 h4 h5, fun b s i d q I F w0 w h1 h2 h3 h4 h5 => dollar_calls 0 (fun n h => by cases h) b s i d q I F w0 w h1 h2 h3 h4 h5⟩
 | m + 1 => ⟨fun b s i d I F w0 w h1 h2 h3 h4 h5 => double_calls (m + 1) (fun n h => by cases h; exact (both_ok m).2) b s i d I F w0 w h1 h2 h3 h4 h5, fun b s i d q I F w0 w h1 h2 h3 h4 h5 => dollar_calls (m + 1) (fun n h => by cases h; exact both_ok m) b s i d q I F w0 w h1 h2 h3 h4 h5⟩
end Go.Tri
