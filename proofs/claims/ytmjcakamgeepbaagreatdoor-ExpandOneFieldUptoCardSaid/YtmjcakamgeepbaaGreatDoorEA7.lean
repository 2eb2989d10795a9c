/-
 A reader of words: its small steps.
-/
import Derived.Test.YtmjcakamgeepbaaGreatDoorEA4
import Derived.Test.YtmjcakamgeepbaaGreatDoorPWord7
namespace Go.Tri
open Go.Proofs Go.RowKit
set_option maxRecDepth 10000
/-- a reader's cells -/
def rdC (s : List UInt8) (kd dp : Nat) (v : Value) : List Value := [str s, .int .i64 (kd : Int), .int .i64 (dp : Int), v]
def topP (v : Value) (n : Nat) : Option Addr := if n = 0 then none else some ⟨(adr v).block, (adr v).off + (n - 1) * 5, none⟩
def ShapeV (v : Value) (n : Nat) : Prop := ∃ A c, v = .slice A n c ∧ (0 < n → ∀ a, A = some a → a.spot = none) ∧ (0 < n → A ≠ none)
theorem top_pure (b : Nat) (s : List UInt8) (kd dp : Nat) (v : Value) (n : Nat) (w : World) (hn : n ≤ 1000000000) (hb : Rowed w b (rdC s kd dp v)) (hv : ShapeV v n) : Pure Tryz.prog 90 [.pointer (some ⟨b, 3, none⟩)] w (.pointer (topP v n)) := by
 refine enter Tryz.func90 rfl Tryz.ntmps90 rfl (St.start w (look w) (Le.refl _)) (trun rfl (t_seq (tr (l_run 2 rfl (lq rfl ((by exact q_ldr rfl rfl (rd_imm (hb 3 _ rfl)))) ?_))))); refine lq rfl ((by exact q_len rfl un133 rfl (len_of hv))) ?_; refine lrun rfl (t_cond rfl (fun hc0 => ?_) (fun hc0 => ?_))
 ·simp at hc0
  have hn0 : n = 0 := by omega
  refine trun rfl (tret (n_ret1 rfl rfl (fun w' hw => ?_))); refine ⟨?_, hw.below⟩; rw [topP, if_pos hn0]
 ·simp at hc0
  have hn0 : ¬ n = 0 := by omega
  refine tskip (t_seq (t_qdraw mo (by kernel_rfl) (fun _ _ _ _ _ h => h) (s_run 2 rfl (sq rfl ((by exact q_ldr rfl rfl (rd_imm (hb 3 _ rfl)))) ?_)))); refine s_run 2 rfl (sq rfl ((by exact q_ldr rfl rfl (rd_imm (hb 3 _ rfl)))) ?_); refine sq rfl ((by exact q_len rfl un133 rfl (len_of hv))) ?_; refine sq rfl (q_sub64 rfl rfl rfl (by omega)) ?_; refine sq rfl ((by exact q_indexAddr rfl un133 ti120 rfl rfl (hv) (by omega))) ?_; refine s_run 1 rfl (sdn (t_ret (n_ret1 rfl rfl (fun w' hw => ?_)))); refine ⟨?_, hw.below⟩; rw [topP, if_neg hn0, show ((n : Int) - 1).toNat = n - 1 by omega]
theorem top_nil (b : Nat) (s : List UInt8) (kd dp : Nat) (v : Value) (w : World) (hb : Rowed w b (rdC s kd dp v)) (hv : ShapeV v 0) : Pure Tryz.prog 90 [.pointer (some ⟨b, 3, none⟩)] w (.pointer none) := top_pure b s kd dp v 0 w (by omega) hb hv
theorem top_some (b : Nat) (s : List UInt8) (kd dp : Nat) (v : Value) (n : Nat) (w : World) (hn : n ≤ 1000000000) (h0 : 0 < n) (hb : Rowed w b (rdC s kd dp v)) (hv : ShapeV v n) : Pure Tryz.prog 90 [.pointer (some ⟨b, 3, none⟩)] w (.pointer (some ⟨(adr v).block, (adr v).off + (n - 1) * 5, none⟩)) := by
 have h := top_pure b s kd dp v n w hn hb hv
 rw [topP, if_neg (by omega)] at h; exact h
theorem quoted_pure (b : Nat) (s : List UInt8) (kd dp : Nat) (v : Value) (w : World) (hb : Rowed w b (rdC s kd dp v)) : Pure Tryz.prog 68 [.pointer (some ⟨b, 0, none⟩)] w (.bool (decide (kd ≠ 0))) := by
 refine enter Tryz.func68 rfl Tryz.ntmps68 rfl (St.start w (look w) (Le.refl _)) (trun rfl (tr (l_run 3 rfl (lq rfl ((by exact q_ldr rfl rfl (rd_imm (hb 1 _ rfl)))) ?_)))); refine lrun rfl (t_ret (n_ret1 rfl rfl (fun w' hw => ?_))); refine ⟨?_, hw.below⟩
 by_cases h : kd = 0
 ·subst h; rfl
 ·rw [decide_eq_true h, decide_eq_true (by omega)]
end Go.Tri

/-
 A text more.
-/
namespace Go.Tri
open Go.Proofs Go.RowKit
set_option maxRecDepth 10000
theorem lit_pos {L : List PE} {t : List UInt8} {q : Bool} (h0 : 0 < L.length) (h : (true && decide (((nth L (L.length - 1) pe0).kind : Int) = 1) && ((nth L (L.length - 1) pe0).q == q)) = true) : litE L t q = L.set (L.length - 1) { nth L (L.length - 1) pe0 with text := (nth L (L.length - 1) pe0).text ++ t } := by
 simp only [Bool.true_and, Bool.and_eq_true, decide_eq_true_eq, beq_iff_eq] at h; rw [litE, if_pos ⟨List.ne_nil_of_length_pos h0, by omega, h.2⟩]
theorem lit_neg {L : List PE} {t : List UInt8} {q : Bool} (h : (true && decide (((nth L (L.length - 1) pe0).kind : Int) = 1) && ((nth L (L.length - 1) pe0).q == q)) = false) : litE L t q = L ++ [⟨1, t, [], nilV, [], q⟩] := by
 rw [litE, if_neg]; rintro ⟨_, h1, h2⟩; rw [h1, h2] at h
 simp at h
theorem lit_nil (b : Nat) (s : List UInt8) (kd dp : Nat) (v : Value) (L : List PE) (t : List UInt8) (q : Bool) (I : Look) (F : List HA) (w0 w : World) (hn : L.length ≤ 1000000000) (ht : t.length ≤ 1000000000) (h0 : L.length = 0) (hw0 : St w0 I (row b 135 (rdC s kd dp v) :: tvec 120 5 partC v L :: F) w) : Calls Tryz.prog 67 [.pointer (some ⟨b, 0, none⟩), str t, .bool q].toArray w (fun e w' => ∃ v0, e = .returned v0 ∧ ∃ I' H', (I = I' ∧ v0 = .tuple #[] ∧ ∃ v', H' = row b 135 (rdC s kd dp v') :: tvec 120 5 partC v' (litE L t q) :: F) ∧ St w I' H' w') := by
 have hE : litE L t q = L ++ [⟨1, t, [], nilV, [], q⟩] := by rw [litE, if_neg (fun h => h.1 (List.eq_nil_of_length_eq_zero h0))]
 refine enter Tryz.func67 rfl Tryz.ntmps67 rfl (hw0.self) (t_seq (t_seq (t_len v (fun hlv => ?_)))); refine t_region (l_run 3 rfl (lq rfl (qc rfl rfl rfl ((fun w hw => top_nil b s kd dp v w (rowed_of hw) (h0 ▸ hlv)))) (lrun rfl (tq (s_run 1 rfl (sq rfl (q_neq_pnil rfl (by kernel_rfl) rfl rfl) (s_run 1 rfl ?_)))))))
 refine s_and2 5 2 13 19 18 _ false rfl rfl rfl rfl rfl rfl (fun h19 => by
   cases h19
  ) (wanted_n rfl) rfl rfl rfl ?_
 refine s_run 1 rfl ?_
 refine s_and2 6 9 20 27 26 _ false rfl rfl rfl rfl rfl rfl (fun h27 => by
   cases h27
  ) (wanted_n rfl) rfl rfl rfl ?_
 refine sdn (t_cond rfl (fun hc0 => ?_) (fun hc0 => ?_))
 ·cases hc0
 ·refine tskip (t_draw [8, 9, 11, 14] [11, 14] [row b 135 (rdC s kd dp v)] mo (by kernel_rfl) (fun _ _ _ _ _ h => h) (r_run [0, 1, 2] (by kernel_rfl) rfl rfl rfl (rq0 3 (by kernel_rfl) rfl (Le.refl _) rfl (fun _ hI => q_ld rfl rfl (by rfl)) ?_))); refine r_run [4, 5] (by kernel_rfl) rfl rfl rfl (rqf 6 (by kernel_rfl) rfl rfl (fun _ => q_build (pl := [(_, _), (_, _), (_, _), (_, _), (_, _)]) (cs := (partC ⟨1, t, [], nilV, [], q⟩).toArray) rfl un120 ti120 ⟨rfl, ⟨_, _, ti3⟩, rfl, ⟨_, _, ti9⟩, rfl, ⟨_, _, ti9⟩, rfl, ⟨_, _, ti73⟩, rfl, ⟨_, _, ti4⟩, trivial⟩ rfl rfl) ?_); refine rqf 7 (by kernel_rfl) rfl rfl (fun _ => (by exact q_len rfl un133 rfl (len_of hlv))) ?_; refine re 8 (by kernel_rfl) rfl (Le.refl _) rfl (e_buildSlice1 rfl un133 ti120 rfl rfl rfl (by rfl) rfl) ?_; rintro _ _ _ ⟨b44, rfl, rfl, rfl⟩; refine ⟨Le.refl _, .inr SubC.sub, ?_⟩; refine re 9 (by kernel_rfl) rfl (Le.refl _) rfl (e_appendT (f := partC) (c := pe0) rfl un133 ti120 rfl rfl rfl rfl rfl rfl rfl (by exact partC_ones (I := I) (plR_nil I)) (by simp only [maxLen]; omega) (by omega)) ?_; rintro v45 _ _ ⟨rfl, rfl⟩; refine ⟨Le.refl _, .inr SubC.sub, ?_⟩
  have hlen45 : (L ++ [pe0]).length = L.length + 1 := by simp
  refine r_len v45 (fun hsh45 hone => ?_); refine rqf 10 (by kernel_rfl) rfl rfl (fun _ => (by exact q_indexAddrN rfl un133 ti120 rfl rfl (hsh45) (by omega))) ?_; refine r_run [12, 13] (by kernel_rfl) rfl rfl rfl (r_two 11 14 (by kernel_rfl) (by kernel_rfl) ?_ ?_)
  ·refine x_e0 11 rfl rfl (Le.refl _) rfl rfl (e_storeSA (⟨1, t, [], nilV, [], q⟩) rfl ti120 rfl rfl (partC_ones (I := I) (plR_nil I)) (fun _ => rfl) (by simp) (by decide)) ?_; rintro _ _ _ ⟨rfl, rfl⟩; refine ⟨Le.refl _, .inl rfl, ?_⟩; refine r_heap (H' := tvec 120 5 partC v45 (L ++ [⟨1, t, [], nilV, [], q⟩]) :: _) ?_ (fun _ h => by rw [set_snoc] at h; exact h); refine r_e0 14 (by kernel_rfl) (by kernel_rfl) rfl (Le.refl _) rfl rfl (e_storeS rfl ti133 rfl rfl (by assumption) rfl (by rfl)) ?_; rintro _ _ _ ⟨rfl, rfl⟩; refine ⟨Le.refl _, .inl rfl, ?_⟩; refine r_heap (H' := row b 135 (rdC s kd dp v45) :: _) ?_ (fun _ h => h); refine r_end (by kernel_rfl) (n_end0 rfl (fun w' hw => ?_)); rw [hE]; exact ⟨_, rfl, I, row b 135 (rdC s kd dp v45) :: tvec 120 5 partC v45 (L ++ [⟨1, t, [], nilV, [], q⟩]) :: F, ⟨rfl, rfl, v45, rfl⟩, subC_st hw⟩
  ·refine x_e0 14 rfl rfl (Le.refl _) rfl rfl (e_storeS rfl ti133 rfl rfl (by assumption) rfl (by rfl)) ?_; rintro _ _ _ ⟨rfl, rfl⟩; refine ⟨Le.refl _, .inl rfl, ?_⟩; refine r_heap (H' := row b 135 (rdC s kd dp v45) :: _) ?_ (fun _ h => h); refine r_e0 11 (by kernel_rfl) (by kernel_rfl) rfl (Le.refl _) rfl rfl (e_storeSA (⟨1, t, [], nilV, [], q⟩) rfl ti120 rfl rfl (partC_ones (I := I) (plR_nil I)) (fun _ => rfl) (by simp) (by decide)) ?_; rintro _ _ _ ⟨rfl, rfl⟩; refine ⟨Le.refl _, .inl rfl, ?_⟩; refine r_heap (H' := tvec 120 5 partC v45 (L ++ [⟨1, t, [], nilV, [], q⟩]) :: _) ?_ (fun _ h => by rw [set_snoc] at h; exact h); refine r_end (by kernel_rfl) (n_end0 rfl (fun w' hw => ?_)); rw [hE]; exact ⟨_, rfl, I, row b 135 (rdC s kd dp v45) :: tvec 120 5 partC v45 (L ++ [⟨1, t, [], nilV, [], q⟩]) :: F, ⟨rfl, rfl, v45, rfl⟩, subC_st hw⟩
theorem lit_cons (b : Nat) (s : List UInt8) (kd dp : Nat) (v : Value) (L : List PE) (t : List UInt8) (q : Bool) (I : Look) (F : List HA) (w0 w : World) (hn : L.length ≤ 1000000000) (ht : t.length ≤ 1000000000) (h0 : 0 < L.length) (hx : (nth L (L.length - 1) pe0).text.length ≤ 1000000000) (hw0 : St w0 I (row b 135 (rdC s kd dp v) :: tvec 120 5 partC v L :: F) w) : Calls Tryz.prog 67 [.pointer (some ⟨b, 0, none⟩), str t, .bool q].toArray w (fun e w' => ∃ v0, e = .returned v0 ∧ ∃ I' H', (I = I' ∧ v0 = .tuple #[] ∧ ∃ v', H' = row b 135 (rdC s kd dp v') :: tvec 120 5 partC v' (litE L t q) :: F) ∧ St w I' H' w') := by
 refine enter Tryz.func67 rfl Tryz.ntmps67 rfl (hw0.self) (t_seq (t_seq (t_len v (fun hlv => ?_)))); refine t_region (l_run 3 rfl (lq rfl (qc rfl rfl rfl ((fun w hw => top_some b s kd dp v L.length w (by omega) h0 (rowed_of hw) hlv))) ?_)); refine lrun rfl (tq (s_run 1 rfl (sq rfl (q_neq_pnil rfl (by kernel_rfl) rfl rfl) (s_run 1 rfl ?_))))
 refine s_and2 5 2 13 19 18 _ _ rfl rfl rfl rfl rfl rfl (fun h19 => by
   simp at h19
   refine s_runG 3 rfl ?_; refine sg rfl ((by exact q_load_vecF rfl un3 rfl rfl (vec_at (fo := 0) (f := partC) (d := pe0) (fun _ => rfl) (show L.length - 1 < L.length by omega) rfl))) ?_; refine s_runG 1 rfl ?_; exact s_val rfl
  ) (wanted_n rfl) rfl rfl rfl ?_
 refine s_run 1 rfl ?_
 refine s_and2 6 9 20 27 26 _ _ rfl rfl rfl rfl rfl rfl (fun h27 => by
   simp at h27
   refine s_runG 3 rfl ?_; refine sg rfl ((by exact q_load_vecF rfl un4 rfl rfl (vec_at (fo := 4) (f := partC) (d := pe0) (fun _ => rfl) (show L.length - 1 < L.length by omega) rfl))) ?_; refine s_runG 1 rfl (sg rfl (q_eql_bool rfl un4 rfl rfl) ?_); exact s_val rfl
  ) (wanted_n rfl) rfl rfl rfl ?_
 refine sdn (t_cond rfl (fun hc0 => ?_) (fun hc0 => ?_))
 ·have hE : litE L t q = L.set (L.length - 1) { nth L (L.length - 1) pe0 with text := (nth L (L.length - 1) pe0).text ++ t } := lit_pos h0 hc0
  refine tr (l_run 3 rfl ?_); refine lq rfl ((by exact q_load_vecF rfl un9 rfl rfl (vec_at (fo := 1) (f := partC) (d := pe0) (fun _ => rfl) (show L.length - 1 < L.length by omega) rfl))) ?_; refine l_run 1 rfl (lq rfl (q_cat rfl rfl rfl (by omega)) ?_); refine l_run 2 rfl ?_; refine l_e0 rfl rfl (e_storeT pe0 { nth L (L.length - 1) pe0 with text := (nth L (L.length - 1) pe0).text ++ t } rfl ti9 rfl rfl (by exact ⟨rfl, rfl⟩) (fun _ => rfl) (by omega) rfl rfl) ?_; rintro _ _ _ ⟨rfl, rfl⟩; refine ln (tret (n_ret0 rfl (fun w' hw => ?_))); rw [hE]; exact ⟨_, rfl, I, _, ⟨rfl, rfl, v, rfl⟩, subC_st hw⟩
 ·have hE : litE L t q = L ++ [⟨1, t, [], nilV, [], q⟩] := lit_neg hc0
  refine tskip (t_draw [8, 9, 11, 14] [11, 14] [row b 135 (rdC s kd dp v)] mo (by kernel_rfl) (fun _ _ _ _ _ h => h) (r_run [0, 1, 2] (by kernel_rfl) rfl rfl rfl ?_)); refine rq0 3 (by kernel_rfl) rfl (Le.refl _) rfl (fun _ hI => (by exact q_ld rfl rfl (by rfl))) ?_; refine r_run [4, 5] (by kernel_rfl) rfl rfl rfl (rqf 6 (by kernel_rfl) rfl rfl (fun _ => q_build (pl := [(_, _), (_, _), (_, _), (_, _), (_, _)]) (cs := (partC ⟨1, t, [], nilV, [], q⟩).toArray) rfl un120 ti120 ⟨rfl, ⟨_, _, ti3⟩, rfl, ⟨_, _, ti9⟩, rfl, ⟨_, _, ti9⟩, rfl, ⟨_, _, ti73⟩, rfl, ⟨_, _, ti4⟩, trivial⟩ rfl rfl) ?_); refine rqf 7 (by kernel_rfl) rfl rfl (fun _ => (by exact q_len rfl un133 rfl (len_of hlv))) ?_; refine re 8 (by kernel_rfl) rfl (Le.refl _) rfl (e_buildSlice1 rfl un133 ti120 rfl rfl rfl (by rfl) rfl) ?_; rintro _ _ _ ⟨b44, rfl, rfl, rfl⟩; refine ⟨Le.refl _, .inr SubC.sub, ?_⟩; refine re 9 (by kernel_rfl) rfl (Le.refl _) rfl (e_appendT (f := partC) (c := pe0) rfl un133 ti120 rfl rfl rfl rfl rfl rfl rfl (by exact partC_ones (I := I) (plR_nil I)) (by simp only [maxLen]; omega) (by omega)) ?_; rintro v45 _ _ ⟨rfl, rfl⟩; refine ⟨Le.refl _, .inr SubC.sub, ?_⟩
  have hlen45 : (L ++ [pe0]).length = L.length + 1 := by simp
  refine r_len v45 (fun hsh45 hone => ?_); refine rqf 10 (by kernel_rfl) rfl rfl (fun _ => (by exact q_indexAddrN rfl un133 ti120 rfl rfl (hsh45) (by omega))) ?_; refine r_run [12, 13] (by kernel_rfl) rfl rfl rfl (r_two 11 14 (by kernel_rfl) (by kernel_rfl) ?_ ?_)
  ·refine x_e0 11 rfl rfl (Le.refl _) rfl rfl (e_storeSA (⟨1, t, [], nilV, [], q⟩) rfl ti120 rfl rfl (partC_ones (I := I) (plR_nil I)) (fun _ => rfl) (by simp) (by decide)) ?_; rintro _ _ _ ⟨rfl, rfl⟩; refine ⟨Le.refl _, .inl rfl, ?_⟩; refine r_heap (H' := tvec 120 5 partC v45 (L ++ [⟨1, t, [], nilV, [], q⟩]) :: _) ?_ (fun _ h => by rw [set_snoc] at h; exact h); refine r_e0 14 (by kernel_rfl) (by kernel_rfl) rfl (Le.refl _) rfl rfl (e_storeS rfl ti133 rfl rfl (by assumption) rfl (by rfl)) ?_; rintro _ _ _ ⟨rfl, rfl⟩; refine ⟨Le.refl _, .inl rfl, ?_⟩; refine r_heap (H' := row b 135 (rdC s kd dp v45) :: _) ?_ (fun _ h => h); refine r_end (by kernel_rfl) (n_end0 rfl (fun w' hw => ?_)); rw [hE]; exact ⟨_, rfl, I, row b 135 (rdC s kd dp v45) :: tvec 120 5 partC v45 (L ++ [⟨1, t, [], nilV, [], q⟩]) :: F, ⟨rfl, rfl, v45, rfl⟩, subC_st hw⟩
  ·refine x_e0 14 rfl rfl (Le.refl _) rfl rfl (e_storeS rfl ti133 rfl rfl (by assumption) rfl (by rfl)) ?_; rintro _ _ _ ⟨rfl, rfl⟩; refine ⟨Le.refl _, .inl rfl, ?_⟩; refine r_heap (H' := row b 135 (rdC s kd dp v45) :: _) ?_ (fun _ h => h); refine r_e0 11 (by kernel_rfl) (by kernel_rfl) rfl (Le.refl _) rfl rfl (e_storeSA (⟨1, t, [], nilV, [], q⟩) rfl ti120 rfl rfl (partC_ones (I := I) (plR_nil I)) (fun _ => rfl) (by simp) (by decide)) ?_; rintro _ _ _ ⟨rfl, rfl⟩; refine ⟨Le.refl _, .inl rfl, ?_⟩; refine r_heap (H' := tvec 120 5 partC v45 (L ++ [⟨1, t, [], nilV, [], q⟩]) :: _) ?_ (fun _ h => by rw [set_snoc] at h; exact h); refine r_end (by kernel_rfl) (n_end0 rfl (fun w' hw => ?_)); rw [hE]; exact ⟨_, rfl, I, row b 135 (rdC s kd dp v45) :: tvec 120 5 partC v45 (L ++ [⟨1, t, [], nilV, [], q⟩]) :: F, ⟨rfl, rfl, v45, rfl⟩, subC_st hw⟩
theorem lit_calls (b : Nat) (s : List UInt8) (kd dp : Nat) (v : Value) (L : List PE) (t : List UInt8) (q : Bool) (I : Look) (F : List HA) (w0 w : World) (hn : L.length ≤ 1000000000) (ht : t.length ≤ 1000000000) (hx : ∀ x ∈ L, x.text.length ≤ 1000000000) (hw0 : St w0 I (row b 135 (rdC s kd dp v) :: tvec 120 5 partC v L :: F) w) : Calls Tryz.prog 67 [.pointer (some ⟨b, 0, none⟩), str t, .bool q].toArray w (fun e w' => ∃ v0, e = .returned v0 ∧ ∃ I' H', (I = I' ∧ v0 = .tuple #[] ∧ ∃ v', H' = row b 135 (rdC s kd dp v') :: tvec 120 5 partC v' (litE L t q) :: F) ∧ St w I' H' w') := by
 rcases Nat.eq_zero_or_pos L.length with h | h
 ·exact lit_nil b s kd dp v L t q I F w0 w hn ht h hw0
 ·exact lit_cons b s kd dp v L t q I F w0 w hn ht h (hx _ (nth_mem (by omega))) hw0
end Go.Tri

/-
 Other parts behind.
-/
namespace Go.Tri
open Go.Proofs Go.RowKit
set_option maxRecDepth 10000
theorem rds_pt {w0 : World} {I : Look} {H : List HA} {v : Value} {l : List PE} (h : Sl I 5 v (l.map partC)) {i : Nat} (hi : i < l.length) : Rds w0 I H (adr v).block ((adr v).off + i * 5) (partC (nth l i pe0)) := h.rds (map_getD l partC pe0 hi)
theorem litE_sum (L : List PE) (t : List UInt8) (q : Bool) : sumT (litE L t q) = sumT L + t.length := by rw [← sumP_pt, litE_pt, litP_sum, sumP_pt]
theorem allE_sum (M L : List PE) : sumT (allE L M) = sumT L + sumT M := by rw [← sumP_pt, allE_pt, allP_sum, sumP_pt, sumP_pt]
theorem sumT_take (M : List PE) (i : Nat) : sumT (M.take i) ≤ sumT M := by
 conv => rhs; rw [← List.take_append_drop i M, sumT_app]
 omega
theorem allE_take {L M : List PE} {i : Nat} (h : i < M.length) : allE L (M.take (i + 1)) = if (nth M i pe0).kind = 1 then litE (allE L (M.take i)) (nth M i pe0).text (nth M i pe0).q else allE L (M.take i) ++ [nth M i pe0] := by
 rw [take_nth pe0 h, allE_snoc]
theorem all_calls (b : Nat) (s : List UInt8) (kd dp : Nat) (v : Value) (L M : List PE) (vl : Value) (I : Look) (F : List HA) (w0 w : World) (hn : L.length + M.length ≤ 1000000000) (hs : sumT L + sumT M ≤ 1000000000) (hvl : Sl I 5 vl (M.map partC)) (hWM : WordsR I M) (hw0 : St w0 I (row b 135 (rdC s kd dp v) :: tvec 120 5 partC v L :: F) w) : Calls Tryz.prog 86 [.pointer (some ⟨b, 0, none⟩), vl].toArray w (fun e w' => ∃ v0, e = .returned v0 ∧ ∃ I' H', (I = I' ∧ v0 = .tuple #[] ∧ ∃ v', H' = row b 135 (rdC s kd dp v') :: tvec 120 5 partC v' (allE L M) :: F) ∧ St w I' H' w') := by
 refine enter Tryz.func86 rfl Tryz.ntmps86 rfl (hw0.self) (tr (l_run 1 rfl ?_)); refine lq rfl ((by exact q_len rfl un73 rfl (Sl.lenOf hvl (List.length_map _)))) ?_; refine lrun rfl (t_block (t_loopE (ι := Nat × Value) (fun zz => zz.1 ≤ M.length) (fun zz => M.length - zz.1) (fun zz => [(8, .int .i64 (zz.1 : Int))]) [(0, _), (1, _), (6, _), (7, _)] (fun zz => I) (fun zz => (row b 135 (rdC s kd dp zz.2) :: tvec 120 5 partC zz.2 (allE L (M.take zz.1)) :: F)) (0, v) ?_ (sub_rfl rfl) (sub_rfl rfl) (fun _ h => by dsimp only; rw [List.take_zero]; exact h) ?_))
 ·dsimp only; exact Nat.zero_le _
 rintro ⟨i, v'⟩ hi; dsimp only at *
 have hb1 := allE_len (M.take i) L
 have hb2 := allE_sum (M.take i) L
 have hb3 := sumT_take M i
 have hb4 : (M.take i).length ≤ M.length := by rw [List.length_take]; omega
 refine trun rfl (t_seq (t_cond rfl (fun hc0 => ?_) (fun hc0 => ?_)))
 ·simp at hc0
  have hiM : i < M.length := by omega
  refine tskip (t_seq (t_block (tr ?_))); refine lq rfl ((by exact q_indexAddrN rfl un73 ti120 rfl rfl (Sl.shape hvl (List.length_map _)) (by omega))) ?_; refine lq rfl ((by exact q_load_agg rfl un120 ti120 rfl rfl (rds_pt (i := i) hvl (by omega)))) ?_; refine le rfl (e_alloc rfl ti120 rfl) ?_; rintro _ _ _ ⟨b5, rfl, rfl, rfl⟩; refine l_e0 rfl rfl ((by exact e_store_all rfl ti120 rfl rfl rfl (by exact partC_ones (hWM _ (nth_mem (by omega)))) rfl)) ?_; rintro _ _ _ ⟨rfl, rfl⟩; refine lnr1 (l_run 1 rfl (lq rfl (q_ld rfl rfl (by rfl)) ?_)); refine lrun rfl (t_cond rfl (fun hc1 => ?_) (fun hc1 => ?_))
  ·simp at hc1
   have hk : (nth M i pe0).kind = 1 := by omega
   refine t_region (l_run 2 rfl (lq rfl (q_ld rfl rfl (by rfl)) ?_)); refine l_run 1 rfl (lq rfl (q_ld rfl rfl (by rfl)) ?_); refine lec rfl rfl rfl rfl (fun w hw => lit_calls b s kd dp v' (allE L (M.take i)) (nth M i pe0).text (nth M i pe0).q _ _ _ w (by omega) (by have := sumT_mem (nth_mem (l := M) (i := i) (d := pe0) (by omega)); omega) (fun x hx => by have := sumT_mem hx; omega) (picks_st2 (row b 135 (rdC s kd dp v')) (tvec 120 5 partC v' (allE L (M.take i))) hw)) ?_; rintro _ _ _ ⟨rfl, rfl, v20, rfl⟩; refine l_nil (n_block (n_then (t_region (lq rfl (q_add64 rfl rfl rfl (by omega)) ?_)))); refine l_runA rfl (n_roundE ((i + 1, v20)) ?_ ?_ (sub_rfl rfl) (sub_rfl rfl) (fun _ h => by dsimp only; rw [allE_take hiM, if_pos hk]; exact subC_st h))
   ·dsimp only; exact hiM
   ·dsimp only
    show M.length - (i + 1) < M.length - i
    omega
  ·simp at hc1
   have hk : ¬ (nth M i pe0).kind = 1 := by omega
   refine t_len v' (fun hlv => ?_); refine t_draw [6, 7, 9, 12] [9, 12] [row b 135 (rdC s kd dp v'), row b5 120 (partC (nth M i pe0))] mo (by kernel_rfl) (fun _ _ _ _ _ h => h) (r_run [0, 1, 2] (by kernel_rfl) rfl rfl rfl (rq0 3 (by kernel_rfl) rfl (Le.refl _) rfl (fun _ hI => q_ld rfl rfl (by rfl)) ?_)); refine rq0 4 (by kernel_rfl) rfl (Le.refl _) rfl (fun _ hI => (by exact q_load_rowA rfl un120 ti120 rfl rfl rfl)) ?_; refine rqf 5 (by kernel_rfl) rfl rfl (fun _ => (by exact q_len rfl un133 rfl (len_of hlv))) ?_; refine re 6 (by kernel_rfl) rfl (Le.refl _) rfl (e_buildSlice1 rfl un133 ti120 rfl rfl rfl (by rfl) rfl) ?_; rintro _ _ _ ⟨b27, rfl, rfl, rfl⟩; refine ⟨Le.refl _, .inr SubC.sub, ?_⟩; refine re 7 (by kernel_rfl) rfl (Le.refl _) rfl (e_appendT (f := partC) (c := pe0) rfl un133 ti120 rfl rfl rfl rfl rfl rfl rfl (by exact partC_ones (I := I) (plR_nil I)) (by simp only [maxLen]; omega) (by omega)) ?_; rintro v28 _ _ ⟨rfl, rfl⟩; refine ⟨Le.refl _, .inr SubC.sub, ?_⟩
   have hlen28 : ((allE L (M.take i)) ++ [pe0]).length = (allE L (M.take i)).length + 1 := by simp
   refine r_len v28 (fun hsh28 hone => ?_); refine rqf 8 (by kernel_rfl) rfl rfl (fun _ => (by exact q_indexAddrN rfl un133 ti120 rfl rfl (hsh28) (by omega))) ?_; refine r_run [10, 11] (by kernel_rfl) rfl rfl rfl (r_two 9 12 (by kernel_rfl) (by kernel_rfl) ?_ ?_)
   ·refine x_e0 9 rfl rfl (Le.refl _) rfl rfl (e_storeSA ((nth M i pe0)) rfl ti120 rfl rfl (partC_ones (hWM _ (nth_mem (by omega)))) (fun _ => rfl) (by simp) (by decide)) ?_; rintro _ _ _ ⟨rfl, rfl⟩; refine ⟨Le.refl _, .inl rfl, ?_⟩; refine r_heap (H' := tvec 120 5 partC v28 ((allE L (M.take i)) ++ [(nth M i pe0)]) :: _) ?_ (fun _ h => by rw [set_snoc] at h; exact h); refine r_e0 12 (by kernel_rfl) (by kernel_rfl) rfl (Le.refl _) rfl rfl (e_storeS rfl ti133 rfl rfl (by assumption) rfl (by rfl)) ?_; rintro _ _ _ ⟨rfl, rfl⟩; refine ⟨Le.refl _, .inl rfl, ?_⟩; refine r_heap (H' := row b 135 (rdC s kd dp v28) :: _) ?_ (fun _ h => h); refine r_end (by kernel_rfl) (n_block (n_then (t_region (lq rfl (q_add64 rfl rfl rfl (by omega)) ?_)))); refine l_runA rfl (n_roundE ((i + 1, v28)) ?_ ?_ (sub_rfl rfl) (sub_rfl rfl) (fun _ h => by dsimp only; rw [allE_take hiM, if_neg hk]; exact subC_st h))
    ·dsimp only; exact hiM
    ·dsimp only
     show M.length - (i + 1) < M.length - i
     omega
   ·refine x_e0 12 rfl rfl (Le.refl _) rfl rfl (e_storeS rfl ti133 rfl rfl (by assumption) rfl (by rfl)) ?_; rintro _ _ _ ⟨rfl, rfl⟩; refine ⟨Le.refl _, .inl rfl, ?_⟩; refine r_heap (H' := row b 135 (rdC s kd dp v28) :: _) ?_ (fun _ h => h); refine r_e0 9 (by kernel_rfl) (by kernel_rfl) rfl (Le.refl _) rfl rfl (e_storeSA ((nth M i pe0)) rfl ti120 rfl rfl (partC_ones (hWM _ (nth_mem (by omega)))) (fun _ => rfl) (by simp) (by decide)) ?_; rintro _ _ _ ⟨rfl, rfl⟩; refine ⟨Le.refl _, .inl rfl, ?_⟩; refine r_heap (H' := tvec 120 5 partC v28 ((allE L (M.take i)) ++ [(nth M i pe0)]) :: _) ?_ (fun _ h => by rw [set_snoc] at h; exact h); refine r_end (by kernel_rfl) (n_block (n_then (t_region (lq rfl (q_add64 rfl rfl rfl (by omega)) ?_)))); refine l_runA rfl (n_roundE ((i + 1, v28)) ?_ ?_ (sub_rfl rfl) (sub_rfl rfl) (fun _ h => by dsimp only; rw [allE_take hiM, if_neg hk]; exact subC_st h))
    ·dsimp only; exact hiM
    ·dsimp only
     show M.length - (i + 1) < M.length - i
     omega
 ·simp at hc0
  have hiM : i = M.length := by omega
  refine t_exit (n_exit_then (n_exit_then (n_exit_block (n_end0 rfl (fun w' hw => ?_))))); rw [hiM, List.take_length] at hw; exact ⟨_, rfl, I, _, ⟨rfl, rfl, v', rfl⟩, subC_st hw⟩
end Go.Tri
