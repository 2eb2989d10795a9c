/-
 What is laid.
-/
import Derived.Test.YtmjcakamgeepbaaGreatDoorEA7
import Derived.Test.YtmjcakamgeepbaaGreatDoorPLex12
import Derived.Test.YtmjcakamgeepbaaGreatDoorPOct
import Derived.Test.YtmjcakamgeepbaaGreatDoorTriZ
import Derived.Test.YtmjcakamgeepbaaGreatDoorESh
import Derived.Shelf.Strings.SlTrimAscii
import Derived.Test.YtmjcakamgeepbaaGreatDoorPWord7
namespace Go.Tri
open Go.Proofs Go.RowKit
/-- what the package variables hold -/
structure GW (w : World) : Prop where
 tab : Lib.TabIs Tryz.prog w "internal/strconv.uint64pow10" .u64 Lib.pow10Tab
 max : ∃ m, w.cell? ⟨0, 0, none⟩ = some (.int .i64 m)
theorem cell_le {w w' : World} (h : Le (look w) (look w')) {a : Addr} {v : Value} (hc : w.cell? a = some v) : w'.cell? a = some v := by
 unfold World.cell? at *
 cases hb : w.heap[a.block]? with
 | none => rw [hb] at hc; cases hc
 | some o => rw [hb] at hc; rw [show w'.heap[a.block]? = some o from h _ _ hb]; exact hc
theorem var_le {w w' : World} (h : Le (look w) (look w')) {P : Program} {n : String} {cs : Array Value} (hc : w.var? P n = some cs) : w'.var? P n = some cs := by
 unfold World.var? at *; rw [Option.bind_eq_some_iff] at *; obtain ⟨g, hg, hc⟩ := hc; refine ⟨g, hg, ?_⟩
 cases hb : w.heap[g]? with
 | none => rw [hb] at hc; cases hc
 | some o => rw [hb] at hc; rw [show w'.heap[g]? = some o from h _ _ hb]; exact hc
theorem GW.le {w w' : World} (h : GW w) (k : Le (look w) (look w')) : GW w' where
 tab := var_le k h.tab
 max := let ⟨m, h1⟩ := h.max; ⟨m, cell_le k h1⟩
def EnvI (I : Look) : Prop := ∃ W0, GW W0 ∧ Le (look W0) I
theorem EnvI.mono {I J : Look} (h : EnvI I) (k : Le I J) : EnvI J := let ⟨W0, h1, h2⟩ := h; ⟨W0, h1, h2.trans k⟩
theorem EnvI.gw {w : World} (h : EnvI (look w)) : GW w := let ⟨_, h1, h2⟩ := h; h1.le h2
theorem EnvI.cell {w : World} (h : EnvI (look w)) : ∃ m, w.cell? ⟨0, 0, none⟩ = some (.int .i64 m) := h.gw.max
theorem contains_pure (s sub : List UInt8) (w : World) (hs : s.length ≤ 1000000000) (hG : EnvI (look w)) : Pure Tryz.prog 109 [str s, str sub] w (.bool (Lib.contains s sub)) := by
 obtain ⟨m, hm⟩ := hG.cell
 have hsz := size_str s
 refine (Tryz.strings_Contains ⟨s.toArray⟩ ⟨sub.toArray⟩ m w (by omega) hm).mono fun e w' ⟨h1, h2⟩ => ?_
 subst h2; exact ⟨h1, Below.refl _ _⟩
end Go.Tri

/-
 What is a name.
-/
namespace Go.Tri
open Go.Proofs Go.RowKit
set_option maxRecDepth 10000
theorem okN_eq (s : List UInt8) (i : Nat) : (!letterB (nth s i 0) && (decide ((i : Int) = 0) || decide (((nth s i 0).toNat : Int) < 48) || decide (57 < ((nth s i 0).toNat : Int)))) = !okN s i := by
 unfold okN digitB'
 by_cases h1 : (i : Int) = 0 <;> by_cases h2 : ((nth s i 0).toNat : Int) < 48 <;> by_cases h3 : 57 < ((nth s i 0).toNat : Int) <;> cases letterB (nth s i 0) <;> simp [h1, h2, h3] <;> omega
theorem okN_bad {s : List UInt8} {i : Nat} (h : (!letterB (nth s i 0) && (decide ((i : Int) = 0) || decide (((nth s i 0).toNat : Int) < 48) || decide (57 < ((nth s i 0).toNat : Int)))) = true) : okN s i = false := by
 rw [okN_eq] at h; simpa using h
theorem okN_good {s : List UInt8} {i : Nat} (h : (!letterB (nth s i 0) && (decide ((i : Int) = 0) || decide (((nth s i 0).toNat : Int) < 48) || decide (57 < ((nth s i 0).toNat : Int)))) = false) : okN s i = true := by
 rw [okN_eq] at h; simpa using h
theorem letter_pure (c : UInt8) (w : World) : Pure Tryz.prog 115 [u8 c] w (.bool (letterB c)) := by
 refine enter Tryz.func115 rfl Tryz.ntmps115 rfl (St.start w (look w) (Le.refl _)) (trun rfl (tq (s_run 1 rfl (sq rfl (q_or_u8 (d := 32) rfl rfl rfl) (s_run 2 rfl ?_)))))
 refine s_and2 3 3 6 10 9 _ _ rfl rfl rfl rfl rfl rfl (fun h10 => by
   simp at h10
   refine s_runG 1 rfl (sg rfl (q_or_u8 (d := 32) rfl rfl rfl) (s_runG 1 rfl ?_)); exact s_val rfl
  ) (wanted_n rfl) rfl rfl rfl ?_
 refine s_run 1 rfl ?_
 refine s_and2 2 8 11 14 13 _ _ rfl rfl rfl rfl rfl rfl (fun h14 => by
   simp at h14
   refine s_runG 2 rfl ?_; exact s_val rfl
  ) (wanted_n rfl) rfl rfl rfl ?_
 refine s_run 1 rfl ?_
 refine s_or2 2 12 15 18 17 _ _ rfl rfl rfl rfl rfl rfl (fun h18 => by
   simp at h18
   refine s_runG 1 rfl (sg rfl (q_eql_u8c rfl rfl rfl rfl) ?_); exact s_val rfl
  ) (wanted_n rfl) rfl rfl rfl ?_
 refine s_run 1 rfl (sdn (t_ret (n_ret1 rfl rfl (fun w' hw => ?_)))); refine ⟨?_, hw.below⟩
 rw [← letter_or c]; rfl
theorem name_pure (s : List UInt8) (w : World) (hs : s.length ≤ 4611686018427387904) : Pure Tryz.prog 98 [str s] w (.bool (nameB s)) := by
 refine enter Tryz.func98 rfl Tryz.ntmps98 rfl (St.start w (look w) (Le.refl _)) (trun rfl (t_seq (tr (l_run 1 rfl (le rfl (e_strBytes rfl un9 un98 un5 rfl) ?_))))); rintro v6 J6 _ ⟨hJ6, hs6, rfl⟩; refine lq rfl ((by exact q_len rfl un98 rfl (Sl.lenOf hs6 (List.length_map _)))) ?_; refine lrun rfl (t_block (t_loopE (ι := Nat) (fun i => i ≤ s.length ∧ ∀ k, k < i → okN s k = true) (fun i => s.length - i) (fun i => [(8, .int .i64 (i : Int))]) [(0, _), (6, _), (7, _)] (fun i => J6) (fun i => []) 0 ?_ (sub_rfl rfl) (sub_rfl rfl) (fun _ h => subC_st h) ?_))
 ·exact ⟨Nat.zero_le _, fun k hk => absurd hk (Nat.not_lt_zero _)⟩
 rintro i ⟨hi, hok⟩; refine trun rfl (t_seq (t_cond rfl (fun hc0 => ?_) (fun hc0 => ?_)))
 ·simp at hc0
  refine tskip (t_seq (t_block (tr (l_run 1 rfl ?_)))); refine lq rfl ((by exact q_indexAddrN rfl un98 ti5 rfl rfl (Sl.shape hs6 (List.length_map _)) (by omega))) ?_; refine lq rfl ((by exact q_ldr rfl rfl (rd_by hs6 (by omega)))) ?_; refine lrun rfl (tq (s_run 1 rfl (sq rfl (qc rfl rfl rfl ((fun w _ => letter_pure _ w))) (s_run 2 rfl ?_))))
  refine s_and2 10 3 16 27 26 _ _ rfl rfl rfl rfl rfl rfl (fun h27 => by
    simp at h27
    refine s_runG 3 rfl ?_
    refine s_or2 2 6 19 22 21 _ _ rfl rfl rfl rfl rfl rfl (fun h22 => by
      simp at h22
      refine s_runG 2 rfl ?_; exact s_val rfl
     ) (wanted_g rfl rfl rfl rfl) rfl rfl rfl ?_
    refine s_runG 1 rfl ?_
    refine s_or2 2 10 23 26 25 _ _ rfl rfl rfl rfl rfl rfl (fun h26 => by
      simp at h26
      refine s_runG 2 rfl ?_; exact s_val rfl
     ) (wanted_g rfl rfl rfl rfl) rfl rfl rfl ?_
    exact s_val rfl
   ) (wanted_n rfl) rfl rfl rfl ?_
  refine sdn (t_cond rfl (fun hc1 => ?_) (fun hc1 => ?_))
  ·have hokk : okN s i = false := okN_bad hc1
   refine trun rfl (tret (n_ret1 rfl rfl (fun w' hw => ?_))); refine ⟨?_, (hw.less hJ6).below⟩; rw [nameB_false (by omega) hokk]
  ·have hokk : okN s i = true := okN_good hc1
   refine t_skip (n_block (n_then (t_region (lq rfl (q_add64 rfl rfl rfl (by omega)) ?_)))); refine l_runA rfl (n_roundE (i + 1) ?_ ?_ (sub_rfl rfl) (sub_rfl rfl) (fun _ h => by dsimp only; exact subC_st h))
   ·refine ⟨by omega, fun k hk => ?_⟩; rcases Nat.lt_succ_iff_lt_or_eq.1 hk with h | rfl
    ·exact hok k h
    ·exact hokk
   ·omega
 ·simp at hc0
  refine t_exit (n_exit_then (n_exit_then (n_exit_block (n_then (tr (l_run 1 rfl (lq rfl (q_neq_str rfl rfl rfl) (lrun rfl (t_ret ?_))))))))); refine n_ret1 rfl rfl (fun w' hw => ?_); refine ⟨?_, (hw.less hJ6).below⟩; rw [nameB_all fun k hk => hok k (by omega)]
end Go.Tri

/-
 A parameter.
-/
namespace Go.Tri
open Go.Proofs Go.RowKit
set_option maxRecDepth 10000
theorem ascii_of_all {l : List UInt8} (h : l.all (fun b => decide (b.toNat < 128)) = true) : ∀ (j : Nat) b, l[j]? = some b → b.toNat < 128 := fun j b hb => by
 have := List.all_eq_true.1 h b (List.mem_of_getElem? hb)
 simpa using this
theorem trimL_pure (s cs : List UInt8) (w : World) (hc : cs.length ≤ 1000) (ha : cs.all (fun b => decide (b.toNat < 128)) = true) : Pure Tryz.prog 108 [str s, str cs] w (str (Lib.trimLeftS s cs)) := by
 have h2 := size_str cs
 exact (Any.strings_TrimLeft_laid Tryz.lays161 (by kernel_rfl) ⟨s.toArray⟩ ⟨cs.toArray⟩ w (by omega) (ascii_of_all (l := cs) ha)).mono fun e w' ⟨h3, h4⟩ => ⟨h3, h4⟩
theorem nameN_end {f n : Nat} {s : List UInt8} (h : ¬ (n < s.length ∧ nameB (s.take (n + 1)) = true)) : nameN f n s = n := by
 cases f with
 | zero => rfl
 | succ f => rw [nameN, if_neg h]
theorem nameN_step {f n : Nat} {s : List UInt8} (hf : s.length - n ≤ f) (h1 : n < s.length) (h2 : nameB (s.take (n + 1)) = true) : nameN f n s = nameN (f - 1) (n + 1) s := by
 obtain ⟨g, rfl⟩ : ∃ g, f = g + 1 := ⟨f - 1, by omega⟩
 rw [nameN, if_pos ⟨h1, h2⟩]; rfl
theorem trimL_le (s cs : List UInt8) : (Lib.trimLeftS s cs).length ≤ s.length := (List.dropWhile_sublist _).length_le
theorem param_mark {s : List UInt8} {n d : Nat} (hn : n = nameN s.length 0 s) (hd : d = if n = 0 then s.length - (Lib.trimLeftS s digitsS).length else n) (h : (decide ((d : Int) = 0) && decide (s ≠ []) && decide (0 ≤ Lib.indexByte markS (nth s 0 0))) = true) : paramN s = 1 := by
 rw [Bool.and_eq_true, Bool.and_eq_true, decide_eq_true_eq, decide_eq_true_eq, indexByte_has] at h; unfold paramN; simp only [← hn]
 have h0 : n = 0 := by
  rcases Nat.eq_zero_or_pos n with h1 | h1
  ·exact h1
  ·rw [if_neg (by omega)] at hd; omega
 rw [if_pos h0] at hd; rw [if_neg (by omega), if_neg (by omega), if_pos ⟨h.1.2, h.2⟩]
theorem param_not {s : List UInt8} {n d : Nat} (hn : n = nameN s.length 0 s) (hd : d = if n = 0 then s.length - (Lib.trimLeftS s digitsS).length else n) (h : (decide ((d : Int) = 0) && decide (s ≠ []) && decide (0 ≤ Lib.indexByte markS (nth s 0 0))) = false) : paramN s = d := by
 rw [indexByte_has] at h; unfold paramN; simp only [← hn]
 by_cases h0 : n = 0
 ·rw [if_pos h0] at hd; rw [if_neg (by omega), ← hd]
  by_cases h1 : d = 0
  ·rw [if_neg (by omega), if_neg, h1]; rintro ⟨h2, h3⟩; rw [decide_eq_true (show (d : Int) = 0 by omega), decide_eq_true h2, h3] at h
   cases h
  ·rw [if_pos h1]
 ·rw [if_neg h0] at hd; rw [if_pos h0, hd]
theorem param_pure (s : List UInt8) (w : World) (hs : s.length ≤ 1000000000) : Pure Tryz.prog 87 [str s] w (.int .i64 (paramN s : Int)) := by
 refine enter Tryz.func87 rfl Tryz.ntmps87 rfl (St.start w (look w) (Le.refl _)) (trun rfl (trun rfl (t_seq (t_block (t_loopE (ι := Nat × Nat) (fun zz => zz.1 ≤ s.length ∧ nameN s.length 0 s = nameN zz.2 zz.1 s ∧ s.length - zz.1 ≤ zz.2) (fun zz => s.length - zz.1) (fun zz => [(3, .int .i64 (zz.1 : Int))]) [(0, _), (2, _)] (fun zz => look w) (fun zz => []) (0, s.length) ?_ (sub_rfl rfl) (sub_rfl rfl) (fun _ h => subC_st h) ?_)))))
 ·dsimp only; exact ⟨Nat.zero_le _, rfl, Nat.le_refl _⟩
 rintro ⟨n, g⟩ ⟨hn, hx, hg⟩; dsimp only at *; refine t_seq (tq (s_run 2 rfl (sq rfl (q_len_str rfl un9 rfl) (s_run 2 rfl ?_))))
 refine s_and2 5 4 8 14 13 _ _ rfl rfl rfl rfl rfl rfl (fun h14 => by
   simp at h14
   refine s_runG 2 rfl (sg rfl (q_add64 rfl rfl rfl (by omega)) ?_); refine sg rfl (q_slice_str_to rfl un9 rfl rfl (by omega)) ?_; refine sg rfl (qc rfl rfl rfl ((fun w _ => name_pure (s.take (n + 1)) w (by rw [List.length_take]; omega)))) ?_; exact s_val rfl
  ) (wanted_n rfl) rfl rfl rfl ?_
 refine sdn (t_cond rfl (fun hc0 => ?_) (fun hc0 => ?_))
 ·have h0 : n < s.length ∧ nameB (s.take (n + 1)) = true := by
   have h := hc0
   rw [Bool.and_eq_true, decide_eq_true_eq] at h; exact ⟨by omega, h.2⟩
  refine tskip (t_block (t_region (l_run 1 rfl (lq rfl (q_add64 rfl rfl rfl (by omega)) ?_)))); refine l_runA rfl (n_block (n_roundE ((n + 1, g - 1)) ?_ ?_ (sub_rfl rfl) (sub_rfl rfl) (fun _ h => by dsimp only; exact subC_st h)))
  ·dsimp only; exact ⟨by omega, hx.trans (nameN_step hg h0.1 h0.2), by omega⟩
  ·dsimp only
   show s.length - (n + 1) < s.length - n
   omega
 ·have h0 : ¬ (n < s.length ∧ nameB (s.take (n + 1)) = true) := fun ⟨h1, h2⟩ => by
   have h : (decide ((n : Int) < (s.length : Int)) && nameB (s.take (n + 1))) = false := hc0
   rw [h2, decide_eq_true (by omega)] at h
   cases h
  have hnm : n = nameN s.length 0 s := by rw [hx, nameN_end h0]
  refine t_exit (n_exit_then (n_exit_then (n_exit_block (n_then (t_cutE (ι := Nat) (fun zz => zz = if n = 0 then s.length - (Lib.trimLeftS s digitsS).length else n) (fun zz => [(3, .int .i64 (zz : Int))]) [(0, _), (2, _), (14, _)] (fun zz => look w) (fun zz => []) (sub_rfl rfl) ?_ ?_)))))
  ·refine trun rfl (t_cond rfl (fun hc1 => ?_) (fun hc1 => ?_))
   ·simp at hc1
    have hn0 : n = 0 := by omega
    have htl := trimL_le s digitsS
    refine t_region (l_run 1 rfl (lq rfl (q_len_str rfl un9 rfl) (l_run 1 rfl (lq rfl (qc rfl rfl rfl ((fun w _ => trimL_pure s digitsS w (by decide) (by decide)))) ?_)))); refine lq rfl (q_len_str rfl un9 rfl) (lq rfl (q_sub64 rfl rfl rfl (by omega)) ?_); refine l_runA rfl (n_cut (s.length - (Lib.trimLeftS s digitsS).length) ?_ (sub_cons' rfl (congrArg (Value.int IntKind.i64) (by omega)) (sub_nil)) (sub_rfl rfl) (fun _ h => by dsimp only; exact subC_st h))
    ·rw [if_pos hn0]
   ·simp at hc1
    have hn0 : ¬ n = 0 := by omega
    refine t_skip (n_cut (n) ?_ (sub_rfl rfl) (sub_rfl rfl) (fun _ h => by dsimp only; exact subC_st h))
    ·rw [if_neg hn0]
  rintro d hd; refine t_seq (tq (s_run 3 rfl ?_))
  refine s_and2 2 2 27 30 29 _ _ rfl rfl rfl rfl rfl rfl (fun h30 => by
    simp at h30
    refine s_runG 1 rfl (sg rfl (q_neq_str rfl rfl rfl) ?_); exact s_val rfl
   ) (wanted_n rfl) rfl rfl rfl ?_
  refine s_run 1 rfl ?_
  refine s_and2 4 6 31 36 35 _ _ rfl rfl rfl rfl rfl rfl (fun h36 => by
    simp at h36
    have hs0 : 0 < s.length := List.length_pos_iff.2 h36.2
    refine s_runG 1 rfl (sg rfl ((by exact q_index_strN rfl un9 rfl rfl (by omega))) ?_); refine sg rfl (qc rfl rfl rfl ((fun w _ => indexByte_pure markS (nth s 0 0) w))) (s_runG 1 rfl ?_); exact s_val rfl
   ) (wanted_n rfl) rfl rfl rfl ?_
  refine sdn (t_cond rfl (fun hc2 => ?_) (fun hc2 => ?_))
  ·have hp := param_mark hnm hd hc2
   refine t_region (lrun rfl (trun rfl (t_ret (n_ret1 rfl rfl (fun w' hw => ?_))))); refine ⟨?_, hw.below⟩
   rw [hp]; rfl
  ·have hp := param_not hnm hd hc2
   refine tskip (trun rfl (t_ret (n_ret1 rfl rfl (fun w' hw => ?_)))); refine ⟨?_, hw.below⟩; rw [hp]
end Go.Tri

/-
 Backslashes, and whether it is an expression.
-/
namespace Go.Tri
open Go.Proofs Go.RowKit
set_option maxRecDepth 10000
def SRes (r : SP) (l : List PT) (k e : Nat) : Prop := match r with
 | .ok acc k' => e = 0 ∧ k = k' ∧ l = acc
 | .bad e' => e = e' ∧ e ≠ 0
theorem SRes.t {r : SP} {l : List PT} {k e : Nat} (h : SRes r l k e) (he : e = 0) : r = .ok l k := by
 cases r with
 | ok acc k' => rw [h.2.1, h.2.2]
 | bad e' => exact absurd he h.2
theorem SRes.f {r : SP} {l : List PT} {k e : Nat} (h : SRes r l k e) (he : e ≠ 0) : r = .bad e := by
 cases r with
 | ok acc k' => exact absurd h.1 he
 | bad e' => rw [h.1]
/-- what a step left behind -/
def StepPost (b : Nat) (s : List UInt8) (kd dp : Nat) (r : SP) (v0 : Value) (I I' : Look) (F H' : List HA) : Prop :=
 Le I I' ∧ ∃ (v' : Value) (L' : List PE) (k e : Nat), v0 = .tuple #[.int .i64 (k : Int), .int .i64 (e : Int)] ∧ H' = row b 135 (rdC s kd dp v') :: tvec 120 5 partC v' L' :: F ∧ WordsR I' L' ∧ SRes r (L'.map PE.pt) k e
theorem StepPost.good {b : Nat} {s : List UInt8} {kd dp : Nat} {r : SP} {I I' : Look} {F H' : List HA} (hle : Le I I') {v' : Value} {L' : List PE} {k : Nat} {acc : List PT} (hr : r = .ok acc k) (hH : H' = row b 135 (rdC s kd dp v') :: tvec 120 5 partC v' L' :: F) (hW : WordsR I' L') (hL : L'.map PE.pt = acc) :
  StepPost b s kd dp r (.tuple #[.int .i64 (k : Int), .int .i64 0]) I I' F H' := ⟨hle, v', L', k, 0, rfl, hH, hW, by rw [hr]; exact ⟨rfl, rfl, hL⟩⟩
theorem StepPost.fail {b : Nat} {s : List UInt8} {kd dp : Nat} {r : SP} {I I' : Look} {F H' : List HA} (hle : Le I I') {v' : Value} {L' : List PE} {e : Nat} (hr : r = .bad e) (he : e ≠ 0) (hH : H' = row b 135 (rdC s kd dp v') :: tvec 120 5 partC v' L' :: F) (hW : WordsR I' L') :
  StepPost b s kd dp r (.tuple #[.int .i64 0, .int .i64 (e : Int)]) I I' F H' := ⟨hle, v', L', 0, e, rfl, hH, hW, by rw [hr]; exact ⟨rfl, he⟩⟩
def WRes (r : PR) (I : Look) (vl : Value) (e1 : Nat) : Prop := match r with
 | .ok l => e1 = 0 ∧ PlR I vl l
 | .bad e2 => e1 = e2 ∧ e1 ≠ 0 ∧ vl = nilV
theorem WRes.t {r : PR} {I : Look} {vl : Value} {e1 : Nat} (h : WRes r I vl e1) (he : e1 = 0) : ∃ l, r = .ok l ∧ PlR I vl l := by
 cases r with
 | ok l => exact ⟨l, rfl, h.2⟩
 | bad e2 => exact absurd he h.2.1
theorem WRes.f {r : PR} {I : Look} {vl : Value} {e1 : Nat} (h : WRes r I vl e1) (he : e1 ≠ 0) : r = .bad e1 ∧ vl = nilV := by
 cases r with
 | ok l => exact absurd h.1 he
 | bad e2 => obtain ⟨h1, _, h2⟩ := h; rw [h1]; exact ⟨rfl, h2⟩
theorem WRes.w {r : PR} {I : Look} {vl : Value} {e1 : Nat} (h : WRes r I vl e1) : ∃ wl, PlR I vl wl ∧ (e1 = 0 → r = .ok wl) ∧ (e1 ≠ 0 → r = .bad e1) := by
 cases r with
 | ok l => exact ⟨l, h.2, fun _ => rfl, fun he => absurd h.1 he⟩
 | bad e2 => obtain ⟨h1, h2, h3⟩ := h; rw [h3]; exact ⟨[], plR_nil _, fun he => absurd he h2, fun _ => by rw [h1]⟩
/-- what within tells at a level -/
def WithinOk (n : Nat) : Prop := ∀ (s : List UInt8) (kind d : Nat) (I : Look) (F : List HA) (w0 w : World), 24 - d = n → d ≤ 24 → kind ≤ 2 → s.length ≤ 100000000 → EnvI I → St w0 I F w →
 Calls Tryz.prog 37 [str s, .int .i64 (kind : Int), .int .i64 (d : Int)].toArray w (fun e w' => ∃ v, e = .returned v ∧ ∃ I' H', (Le I I' ∧ F = H' ∧ ∃ vl, ∃ e1 : Nat, v = .tuple #[vl, .int .i64 (e1 : Int)] ∧ WRes (wP n kind s) I' vl e1) ∧ St w I' H' w')
theorem bsl_takes {kd : Nat} {c : UInt8} (h : (decide ((kd : Int) = 0) || decide (0 ≤ Lib.indexByte [36, 96, 92] c) || (decide ((kd : Int) = 1) && decide (c = 34))) = true) : kd = 0 ∨ hasB [36, 96, 92] c = true ∨ (kd = 1 ∧ c = 34) := by
 rw [indexByte_has] at h; simp only [Bool.or_eq_true, Bool.and_eq_true, decide_eq_true_eq] at h; rcases h with (h | h) | h
 ·exact .inl (by omega)
 ·exact .inr (.inl h)
 ·exact .inr (.inr ⟨by omega, h.2⟩)
theorem bsl_not {kd : Nat} {c : UInt8} (h : (decide ((kd : Int) = 0) || decide (0 ≤ Lib.indexByte [36, 96, 92] c) || (decide ((kd : Int) = 1) && decide (c = 34))) = false) : ¬ (kd = 0 ∨ hasB [36, 96, 92] c = true ∨ (kd = 1 ∧ c = 34)) := by
 rw [indexByte_has] at h; simp only [Bool.or_eq_false_iff, Bool.and_eq_false_iff, decide_eq_false_iff_not] at h; rintro (h1 | h1 | ⟨h1, h2⟩)
 ·omega
 ·rw [h1] at h; exact absurd h.1.2 (by simp)
 ·rcases h.2 with h3 | h3
  ·omega
  ·exact h3 h2
theorem bsl_calls (b : Nat) (s : List UInt8) (kd dp : Nat) (v : Value) (L : List PE) (l : List UInt8) (I : Look) (F : List HA) (w0 w : World) (hn : L.length ≤ 200000000) (hsum : sumT L ≤ 200000000) (hl : l ≠ []) (hll : l.length ≤ 100000000) (hWL : WordsR I L) (hw0 : St w0 I (row b 135 (rdC s kd dp v) :: tvec 120 5 partC v L :: F) w) : Calls Tryz.prog 64 [.pointer (some ⟨b, 0, none⟩), str l].toArray w (fun e w' => ∃ v0, e = .returned v0 ∧ ∃ I' H', (I = I' ∧ ∃ (v' : Value) (L' : List PE) (k : Nat), v0 = .int .i64 (k : Int) ∧ H' = row b 135 (rdC s kd dp v') :: tvec 120 5 partC v' L' :: F ∧ WordsR I L' ∧ bslP kd l (L.map PE.pt) = .ok (L'.map PE.pt) k) ∧ St w I' H' w') := by
 have hp := List.length_pos_iff.2 hl
 refine enter Tryz.func64 rfl Tryz.ntmps64 rfl (hw0.self) (trun rfl (t_seq (tr (l_run 1 rfl (lq rfl (q_len_str rfl un9 rfl) (lrun rfl (t_cond rfl (fun hc0 => ?_) (fun hc0 => ?_))))))))
 ·simp at hc0
  have h1 : l.length = 1 := by omega
  refine tr (l_run 1 rfl (lec rfl rfl rfl rfl (fun w hw => lit_calls b s kd dp v L [92] true _ _ _ w (by omega) (by (simp; done)) (fun x hx => by have := sumT_mem hx; omega) (picks_st2 (row b 135 (rdC s kd dp v)) (tvec 120 5 partC v L) hw)) ?_)); rintro _ _ _ ⟨rfl, rfl, v10, rfl⟩; refine lnr1 (lrun rfl (tret (n_ret1 rfl rfl (fun w' hw => ?_)))); exact ⟨_, rfl, I, _, ⟨rfl, v10, litE L [92] true, 1, rfl, rfl, litE_words hWL, (by rw [bslP, if_pos h1, litE_pt])⟩, subC_st hw⟩
 ·simp at hc0
  have h1 : ¬ l.length = 1 := by omega
  have h1l : 2 ≤ l.length := by omega
  refine tskip (t_seq ?_)
  have h1l : 2 ≤ l.length := by omega
  refine t_qreg (s_run 3 rfl (sq rfl (q_ld rfl rfl (by rfl)) ?_)); refine s_run 2 rfl ?_
  refine s_or2 4 5 16 21 20 _ _ rfl rfl rfl rfl rfl rfl (fun h21 => by
    simp at h21
    refine s_runG 1 rfl (sg rfl ((by exact q_index_str rfl un9 rfl rfl (by omega))) ?_); refine sg rfl (qc rfl rfl rfl ((fun w _ => indexByte_pure [36, 96, 92] (nth l 1 0) w))) (s_runG 1 rfl ?_); exact s_val rfl
   ) (wanted_n rfl) rfl rfl rfl ?_
  refine s_run 1 rfl ?_
  refine s_or2 10 11 22 33 32 _ _ rfl rfl rfl rfl rfl rfl (fun h33 => by
    simp at h33
    refine s_runG 3 rfl (sg rfl (q_ld rfl rfl (by rfl)) ?_); refine s_runG 2 rfl ?_
    refine s_and2 3 17 28 32 31 _ _ rfl rfl rfl rfl rfl rfl (fun h32 => by
      simp at h32
      refine s_runG 1 rfl (sg rfl ((by exact q_index_str rfl un9 rfl rfl (by omega))) ?_); refine sg rfl (q_eql_u8c rfl rfl rfl rfl) ?_; exact s_val rfl
     ) (wanted_g rfl rfl rfl rfl) rfl rfl rfl ?_
    exact s_val rfl
   ) (wanted_n rfl) rfl rfl rfl ?_
  refine s_run 1 rfl (sdn (t_seq (t_block (tr (l_run 1 rfl (lq rfl ((by exact q_index_str rfl un9 rfl rfl (by omega))) ?_)))))); refine lq rfl (q_eql_u8c rfl rfl rfl rfl) (lrun rfl (t_cond rfl (fun hc1 => ?_) (fun hc1 => ?_)))
  ·simp only [decide_eq_true_eq, decide_eq_false_iff_not] at hc1
   have h2 : nth l 1 0 = 10 := hc1
   refine t_skip (n_block (n_then (trun rfl (t_ret (n_ret1 rfl rfl (fun w' hw => ?_)))))); exact ⟨_, rfl, I, _, ⟨rfl, v, L, 2, rfl, rfl, hWL, (by rw [bslP, if_neg h1, if_pos h2])⟩, subC_st hw⟩
  ·simp only [decide_eq_true_eq, decide_eq_false_iff_not] at hc1
   have h2 : ¬ nth l 1 0 = 10 := hc1
   refine trun rfl (t_cond rfl (fun hc2 => ?_) (fun hc2 => ?_))
   ·have h3 := bsl_takes hc2
    refine t_region (l_run 2 rfl (lq rfl (q_slice_str rfl un9 rfl rfl rfl (by omega)) ?_)); refine lec rfl rfl rfl rfl (fun w hw => lit_calls b s kd dp v L ((l.drop 1).take 1) true _ _ _ w (by omega) (by (rw [List.length_take, List.length_drop]; omega)) (fun x hx => by have := sumT_mem hx; omega) (picks_st2 (row b 135 (rdC s kd dp v)) (tvec 120 5 partC v L) hw)) ?_; rintro _ _ _ ⟨rfl, rfl, v45, rfl⟩; refine l_nil (n_block (n_then (trun rfl (t_ret (n_ret1 rfl rfl (fun w' hw => ?_)))))); exact ⟨_, rfl, I, _, ⟨rfl, v45, litE L ((l.drop 1).take 1) true, 2, rfl, rfl, litE_words hWL, (by rw [bslP, if_neg h1, if_neg h2, if_pos h3, second_one, litE_pt])⟩, subC_st hw⟩
   ·have h3 := bsl_not hc2
    refine tr (l_run 1 rfl (lec rfl rfl rfl rfl (fun w hw => lit_calls b s kd dp v L [92] true _ _ _ w (by omega) (by (simp; done)) (fun x hx => by have := sumT_mem hx; omega) (picks_st2 (row b 135 (rdC s kd dp v)) (tvec 120 5 partC v L) hw)) ?_)); rintro _ _ _ ⟨rfl, rfl, v35, rfl⟩; refine lnr1 (lrun rfl (tret (n_ret1 rfl rfl (fun w' hw => ?_)))); exact ⟨_, rfl, I, _, ⟨rfl, v35, litE L [92] true, 1, rfl, rfl, litE_words hWL, (by rw [bslP, if_neg h1, if_neg h2, if_neg h3, litE_pt])⟩, subC_st hw⟩
theorem expr_pure (s : List UInt8) (q : Bool) (w : World) (hs : s.length ≤ 100000000) : Pure Tryz.prog 89 [str s, .bool q] w (.bool (exprB s q)) := by
 refine enter Tryz.func89 rfl Tryz.ntmps89 rfl (St.start w (look w) (Le.refl _)) (trun rfl (t_seq (tr (l_run 1 rfl (lq rfl (qc rfl rfl rfl ((fun w _ => hasPrefix_pure s [40] w))) (lrun rfl (t_cond rfl (fun hc0 => ?_) (fun hc0 => ?_))))))))
 ·have hc0 : stB s [40] = false := by simpa using hc0
  refine trun rfl (tret (n_ret1 rfl rfl (fun w' hw => ?_))); refine ⟨?_, hw.below⟩
  rw [exprB, hc0]; rfl
 ·have hc0 : stB s [40] = true := by simpa using hc0
  refine tskip (tr (l_run 1 rfl (lq rfl (q_cat rfl rfl rfl (by (simp only [List.length_append, List.length_cons, List.length_nil, List.length_take, List.length_drop]; omega))) ?_))); refine l_run 1 rfl (lq rfl (qc rfl rfl rfl ((fun w _ => end_pure (36 :: s) 0 0 q w (by simp only [List.length_cons]; omega)))) ?_); rw [expr_end hc0]; refine lrun rfl (tq (s_run 3 rfl ?_))
  refine s_and2 5 2 21 27 26 _ _ rfl rfl rfl rfl rfl rfl (fun h27 => by
    simp at h27
    refine s_runG 2 rfl (sg rfl (q_len_str rfl un9 rfl) (sg rfl (q_add64 rfl rfl rfl (by omega)) ?_)); refine s_runG 1 rfl ?_; exact s_val rfl
   ) (wanted_n rfl) rfl rfl rfl ?_
  refine s_run 1 rfl (sdn (t_ret (n_ret1 rfl rfl (fun w' hw => ?_)))); refine ⟨?_, hw.below⟩; rw [← expr_val hc0]
end Go.Tri
