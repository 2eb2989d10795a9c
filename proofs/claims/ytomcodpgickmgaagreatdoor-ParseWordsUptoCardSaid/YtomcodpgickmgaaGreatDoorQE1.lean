/-
  The statements: awake, ParseDepth.
-/
import Derived.Test.YtomcodpgickmgaaGreatDoorQD5
import Derived.Test.YtomcodpgickmgaaGreatDoorPCode
import Derived.Test.YtomcodpgickmgaaGreatDoorPOpen
namespace Go.Tri
open Go.Proofs Go.RowKit
set_option maxRecDepth 100000
def awakeS6 : List UInt8 := [97, 32, 38, 38, 32, 98, 32, 124, 32, 99, 10]
def smp (w : List UInt8) : Nd := .mk 1 false false [] [w] [] []
def awakeN6 : Nd := ndK 3 [smp [97], ndK 2 [smp [98], smp [99]]]
theorem awake_first : firstP' awakeS6 0 = ⟨awakeN6, true, 11, 0, 0⟩ := by kernel_rfl
theorem at2 {I : Look} {k : Nat} {x y : Nd} {c : NC} (h : NdAt I (ndK k [x, y]) c) : c.kind = k ∧ ∃ a b, Sl I 7 c.kv ([a, b].map ncC) ∧ NdAt I x a ∧ NdAt I y b := by
  unfold ndK NdAt at h
  obtain ⟨h1, -, -, -, -, -, cs, h7, h8⟩ := h
  match cs, h8 with
  | [a, b], h8 =>
    unfold NdsAt at h8
    obtain ⟨h9, h8⟩ := h8
    unfold NdsAt at h8
    exact ⟨h1, a, b, h7, h9, h8.1⟩
  | [], h8 => unfold NdsAt at h8; exact h8.elim
  | [a], h8 => unfold NdsAt at h8; obtain ⟨_, h8⟩ := h8; unfold NdsAt at h8; exact h8.elim
  | a :: b :: c :: r, h8 => unfold NdsAt at h8; obtain ⟨_, h8⟩ := h8; unfold NdsAt at h8; obtain ⟨_, h8⟩ := h8; unfold NdsAt at h8; exact h8.elim
theorem atW {I : Look} {w : List UInt8} {c : NC} (h : NdAt I (smp w) c) : Sl I 1 c.wv ([w].map stC) := by
  unfold smp NdAt at h
  exact h.2.2.2.2.1
theorem awake_at {I : Look} {c : NC} (h : NdAt I awakeN6 c) : c.kind = 3 ∧ ∃ a b, Sl I 7 c.kv ([a, b].map ncC) ∧ b.kind = 2 ∧ Sl I 1 a.wv ([[97]].map stC) ∧ ∃ x y, Sl I 7 b.kv ([x, y].map ncC) := by
  obtain ⟨h1, a, b, h2, h3, h4⟩ := at2 h
  obtain ⟨h5, x, y, h6, -, -⟩ := at2 h4
  exact ⟨h1, a, b, h2, h5, atW h3, x, y, h6⟩
def kkC (k : Nat) : List Value := [str (openS k), str (closeS k)]
theorem kkC_ones (k : Nat) : ∀ u ∈ kkC k, u.oneCell' = true := fun u hu => by
  simp only [kkC, List.mem_cons, List.not_mem_nil, or_false] at hu
  rcases hu with rfl | rfl <;> rfl
theorem tmod5 (k : Int) : -5 < k.tmod 5 ∧ k.tmod 5 < 5 := by
  have h1 := Int.tmod_lt_of_pos k (show (0 : Int) < 5 by decide)
  have h2 := Int.neg_tmod k 5
  have h3 := Int.tmod_lt_of_pos (-k) (show (0 : Int) < 5 by decide)
  omega
theorem tmod5_nat (k : Int) : ∃ kk : Nat, (k.tmod 5 + 5).tmod 5 = (kk : Int) ∧ kk < 5 := by
  have h := tmod5 k
  have h1 : (k.tmod 5 + 5).tmod 5 = (k.tmod 5 + 5) % 5 := Int.tmod_eq_emod_of_nonneg (by omega)
  exact ⟨((k.tmod 5 + 5) % 5).toNat, by rw [h1]; omega, by omega⟩
theorem nth5 {kk : Nat} (h : kk < 5) : nth [0, 1, 2, 3, 4] kk 0 = kk := by
  match kk, h with
  | 0, _ => rfl
  | 1, _ => rfl
  | 2, _ => rfl
  | 3, _ => rfl
  | 4, _ => rfl
theorem kk_get {kk : Nat} (h : kk < 5) : (List.map kkC [0, 1, 2, 3, 4])[kk]? = some (kkC kk) := by
  match kk, h with
  | 0, _ => rfl
  | 1, _ => rfl
  | 2, _ => rfl
  | 3, _ => rfl
  | 4, _ => rfl
theorem open4 {kk : Nat} (h : kk < 5) : decide (openS kk = [102, 40, 41, 32, 123, 32]) = decide (kk = 4) := by
  match kk, h with
  | 0, _ => decide
  | 1, _ => decide
  | 2, _ => decide
  | 3, _ => decide
  | 4, _ => decide
theorem oc_len {kk : Nat} (h : kk < 5) : (openS kk).length ≤ 12 ∧ (closeS kk).length ≤ 12 := by
  match kk, h with
  | 0, _ => decide
  | 1, _ => decide
  | 2, _ => decide
  | 3, _ => decide
  | 4, _ => decide
theorem deepS_len {kk : Nat} (h : kk < 5) : ∀ n, (deepS kk n).length ≤ 1 + 30 * n
  | 0 => by simp [deepS]
  | n + 1 => by
    have ih := deepS_len h n
    have h1 := oc_len h
    rw [deepS]
    simp only [List.length_append]
    omega
set_option maxRecDepth 10000 in
theorem awake_pure (w : World) (hG : EnvI (look w)) : Pure Tryz.prog 8 [] w (.bool true) := by
  refine enter Tryz.func8 rfl Tryz.ntmps8 rfl (St.start w (look w) (Le.refl _)) ?_
  refine t_seq ?_
  refine t_region ?_
  refine l_q rfl rfl rfl (q_assign rfl rfl) ?_
  refine l_nil ?_
  refine n_then ?_
  refine t_seq ?_
  refine t_region ?_
  refine l_e rfl rfl rfl (eff_call rfl rfl rfl Tryz.func9 (by kernel_rfl) rfl (fun w hw => first_calls (awakeS6) (by decide) (0) _ _ _ w (hG) hw)) ?_
  rintro _ J7 _ ⟨hJ7, rfl, c7, rfl, hn7⟩
  rw [awake_first] at hn7 ⊢
  dsimp only at hn7 ⊢
  obtain ⟨hk1, ca, cb, hkv, hk2, hwv, cx, cy, hkb⟩ := awake_at hn7
  refine l_q rfl rfl rfl (q_move rfl rfl) ?_
  refine l_q rfl rfl rfl (q_extract rfl rfl rfl) ?_
  refine l_q rfl rfl rfl (q_extract rfl rfl rfl) ?_
  refine l_q rfl rfl rfl (q_extract rfl rfl rfl) ?_
  refine l_q rfl rfl rfl (q_extract rfl rfl rfl) ?_
  refine l_q rfl rfl rfl (q_extract rfl rfl rfl) ?_
  refine l_e rfl rfl rfl (e_alloc rfl ti29 rfl) ?_
  rintro _ _ _ ⟨b1, rfl, rfl, rfl⟩
  refine l_e0 rfl rfl ((by first | exact e_store_all rfl ti29 rfl rfl rfl (by first | exact chC_ones _ | exact pcC_ones _ | exact hn7.ones | simp [Value.oneCell', str, u8]) rfl | exact e_store_agg rfl ti29 rfl rfl rfl (by first | exact chC_ones _ | exact pcC_ones _ | exact hn7.ones | simp [Value.oneCell', str, u8]) rfl)) ?_
  rintro _ _ _ ⟨rfl, rfl⟩
  refine l_heap (H' := row b1 29 (ncC c7) :: _) ?_ (fun _ h => h)
  refine l_q rfl rfl rfl (q_assign rfl rfl) ?_
  refine l_q rfl rfl rfl (q_assign rfl rfl) ?_
  refine l_q rfl rfl rfl (q_assign rfl rfl) ?_
  refine l_q rfl rfl rfl (q_assign rfl rfl) ?_
  refine l_nil ?_
  refine n_then ?_
  refine t_seq ?_
  refine t_qreg ?_
  refine s_q rfl rfl rfl (q_move rfl rfl) ?_
  refine s_q rfl rfl rfl (q_move rfl rfl) ?_
  refine s_and2 2 1 14 17 16 _ _ rfl rfl rfl rfl rfl rfl (fun h17 => by
      try simp at h17
      refine s_g rfl rfl rfl rfl rfl rfl (q_move rfl rfl) ?_
      refine s_g rfl rfl rfl rfl rfl rfl (q_eql rfl rfl rfl) ?_
      exact s_val rfl
    ) (wanted_n rfl) rfl rfl rfl ?_
  refine s_q rfl rfl rfl (q_move rfl rfl) ?_
  refine s_and2 2 5 18 21 20 _ _ rfl rfl rfl rfl rfl rfl (fun h21 => by
      try simp at h21
      refine s_g rfl rfl rfl rfl rfl rfl (q_move rfl rfl) ?_
      refine s_g rfl rfl rfl rfl rfl rfl (q_eql rfl rfl rfl) ?_
      exact s_val rfl
    ) (wanted_n rfl) rfl rfl rfl ?_
  refine s_q rfl rfl rfl (q_move rfl rfl) ?_
  refine s_and2 3 9 22 26 25 _ _ rfl rfl rfl rfl rfl rfl (fun h26 => by
      try simp at h26
      refine s_g rfl rfl rfl rfl rfl rfl (q_fieldAddr rfl Tryz.underlying29 rfl rfl ti3 rfl rfl) ?_
      refine s_g rfl rfl rfl rfl rfl rfl ((by first | exact q_load_row rfl Tryz.underlying3 rfl rfl (by rfl) | exact q_load rfl Tryz.underlying3 rfl rfl (hkv.rd (i := 1) (j := 0) rfl rfl) | exact q_load rfl Tryz.underlying3 rfl rfl (hkv.rd (i := 1) (j := 6) rfl rfl) | exact q_load rfl Tryz.underlying3 rfl rfl (hkv.rd (i := 0) (j := 4) rfl rfl) | exact q_load rfl Tryz.underlying3 rfl rfl (hwv.rd (i := 0) (j := 0) rfl rfl))) ?_
      refine s_g rfl rfl rfl rfl rfl rfl (q_eql rfl rfl rfl) ?_
      exact s_val rfl
    ) (wanted_n rfl) rfl rfl rfl ?_
  refine s_q rfl rfl rfl (q_move rfl rfl) ?_
  refine s_and2 4 14 27 32 31 _ _ rfl rfl rfl rfl rfl rfl (fun h32 => by
      try simp at h32
      refine s_g rfl rfl rfl rfl rfl rfl (q_fieldAddr rfl Tryz.underlying29 rfl rfl ti27 rfl rfl) ?_
      refine s_g rfl rfl rfl rfl rfl rfl ((by first | exact q_load_row rfl Tryz.underlying27 rfl rfl (by rfl) | exact q_load rfl Tryz.underlying27 rfl rfl (hkv.rd (i := 1) (j := 0) rfl rfl) | exact q_load rfl Tryz.underlying27 rfl rfl (hkv.rd (i := 1) (j := 6) rfl rfl) | exact q_load rfl Tryz.underlying27 rfl rfl (hkv.rd (i := 0) (j := 4) rfl rfl) | exact q_load rfl Tryz.underlying27 rfl rfl (hwv.rd (i := 0) (j := 0) rfl rfl))) ?_
      refine s_g rfl rfl rfl rfl rfl rfl ((by first | exact q_lenV rfl Tryz.underlying27 rfl | exact q_len rfl Tryz.underlying27 rfl (Sl.lenOf (n := 2) hkv rfl) | exact q_len rfl Tryz.underlying27 rfl (Sl.lenOf (n := 2) hkb rfl))) ?_
      refine s_g rfl rfl rfl rfl rfl rfl (q_eql rfl rfl rfl) ?_
      exact s_val rfl
    ) (wanted_n rfl) rfl rfl rfl ?_
  refine s_q rfl rfl rfl (q_move rfl rfl) ?_
  refine s_and2 6 20 33 40 39 _ _ rfl rfl rfl rfl rfl rfl (fun h40 => by
      try simp at h40
      refine s_g rfl rfl rfl rfl rfl rfl (q_fieldAddr rfl Tryz.underlying29 rfl rfl ti27 rfl rfl) ?_
      refine s_g rfl rfl rfl rfl rfl rfl ((by first | exact q_load_row rfl Tryz.underlying27 rfl rfl (by rfl) | exact q_load rfl Tryz.underlying27 rfl rfl (hkv.rd (i := 1) (j := 0) rfl rfl) | exact q_load rfl Tryz.underlying27 rfl rfl (hkv.rd (i := 1) (j := 6) rfl rfl) | exact q_load rfl Tryz.underlying27 rfl rfl (hkv.rd (i := 0) (j := 4) rfl rfl) | exact q_load rfl Tryz.underlying27 rfl rfl (hwv.rd (i := 0) (j := 0) rfl rfl))) ?_
      refine s_g rfl rfl rfl rfl rfl rfl ((by first | exact q_indexAddrVN rfl Tryz.underlying27 ti29 rfl rfl (by omega) | exact q_indexAddrN rfl Tryz.underlying27 ti29 rfl rfl (Sl.shape (n := 2) hkv rfl) (by omega) | exact q_indexAddrN rfl Tryz.underlying27 ti29 rfl rfl (Sl.shape (n := 1) hwv rfl) (by omega) | exact q_indexAddrV rfl Tryz.underlying27 ti29 rfl rfl (by omega) | exact q_indexAddr rfl Tryz.underlying27 ti29 rfl rfl (Sl.shape (n := 2) hkv rfl) (by omega) | exact q_indexAddr rfl Tryz.underlying27 ti29 rfl rfl (Sl.shape (n := 1) hwv rfl) (by omega))) ?_
      refine s_g rfl rfl rfl rfl rfl rfl (q_fieldAddr rfl Tryz.underlying29 rfl rfl ti3 rfl rfl) ?_
      refine s_g rfl rfl rfl rfl rfl rfl ((by first | exact q_load_row rfl Tryz.underlying3 rfl rfl (by rfl) | exact q_load rfl Tryz.underlying3 rfl rfl (hkv.rd (i := 1) (j := 0) rfl rfl) | exact q_load rfl Tryz.underlying3 rfl rfl (hkv.rd (i := 1) (j := 6) rfl rfl) | exact q_load rfl Tryz.underlying3 rfl rfl (hkv.rd (i := 0) (j := 4) rfl rfl) | exact q_load rfl Tryz.underlying3 rfl rfl (hwv.rd (i := 0) (j := 0) rfl rfl))) ?_
      refine s_g rfl rfl rfl rfl rfl rfl (q_eql rfl rfl rfl) ?_
      exact s_val rfl
    ) (wanted_n rfl) rfl rfl rfl ?_
  refine s_q rfl rfl rfl (q_move rfl rfl) ?_
  refine s_and2 7 28 41 49 48 _ _ rfl rfl rfl rfl rfl rfl (fun h49 => by
      try simp at h49
      refine s_g rfl rfl rfl rfl rfl rfl (q_fieldAddr rfl Tryz.underlying29 rfl rfl ti27 rfl rfl) ?_
      refine s_g rfl rfl rfl rfl rfl rfl ((by first | exact q_load_row rfl Tryz.underlying27 rfl rfl (by rfl) | exact q_load rfl Tryz.underlying27 rfl rfl (hkv.rd (i := 1) (j := 0) rfl rfl) | exact q_load rfl Tryz.underlying27 rfl rfl (hkv.rd (i := 1) (j := 6) rfl rfl) | exact q_load rfl Tryz.underlying27 rfl rfl (hkv.rd (i := 0) (j := 4) rfl rfl) | exact q_load rfl Tryz.underlying27 rfl rfl (hwv.rd (i := 0) (j := 0) rfl rfl))) ?_
      refine s_g rfl rfl rfl rfl rfl rfl ((by first | exact q_indexAddrVN rfl Tryz.underlying27 ti29 rfl rfl (by omega) | exact q_indexAddrN rfl Tryz.underlying27 ti29 rfl rfl (Sl.shape (n := 2) hkv rfl) (by omega) | exact q_indexAddrN rfl Tryz.underlying27 ti29 rfl rfl (Sl.shape (n := 1) hwv rfl) (by omega) | exact q_indexAddrV rfl Tryz.underlying27 ti29 rfl rfl (by omega) | exact q_indexAddr rfl Tryz.underlying27 ti29 rfl rfl (Sl.shape (n := 2) hkv rfl) (by omega) | exact q_indexAddr rfl Tryz.underlying27 ti29 rfl rfl (Sl.shape (n := 1) hwv rfl) (by omega))) ?_
      refine s_g rfl rfl rfl rfl rfl rfl (q_fieldAddr rfl Tryz.underlying29 rfl rfl ti27 rfl rfl) ?_
      refine s_g rfl rfl rfl rfl rfl rfl ((by first | exact q_load_row rfl Tryz.underlying27 rfl rfl (by rfl) | exact q_load rfl Tryz.underlying27 rfl rfl (hkv.rd (i := 1) (j := 0) rfl rfl) | exact q_load rfl Tryz.underlying27 rfl rfl (hkv.rd (i := 1) (j := 6) rfl rfl) | exact q_load rfl Tryz.underlying27 rfl rfl (hkv.rd (i := 0) (j := 4) rfl rfl) | exact q_load rfl Tryz.underlying27 rfl rfl (hwv.rd (i := 0) (j := 0) rfl rfl))) ?_
      refine s_g rfl rfl rfl rfl rfl rfl ((by first | exact q_lenV rfl Tryz.underlying27 rfl | exact q_len rfl Tryz.underlying27 rfl (Sl.lenOf (n := 2) hkv rfl) | exact q_len rfl Tryz.underlying27 rfl (Sl.lenOf (n := 2) hkb rfl))) ?_
      refine s_g rfl rfl rfl rfl rfl rfl (q_eql rfl rfl rfl) ?_
      exact s_val rfl
    ) (wanted_n rfl) rfl rfl rfl ?_
  refine s_q rfl rfl rfl (q_move rfl rfl) ?_
  refine s_and2 8 37 50 59 58 _ _ rfl rfl rfl rfl rfl rfl (fun h59 => by
      try simp at h59
      refine s_g rfl rfl rfl rfl rfl rfl (q_fieldAddr rfl Tryz.underlying29 rfl rfl ti27 rfl rfl) ?_
      refine s_g rfl rfl rfl rfl rfl rfl ((by first | exact q_load_row rfl Tryz.underlying27 rfl rfl (by rfl) | exact q_load rfl Tryz.underlying27 rfl rfl (hkv.rd (i := 1) (j := 0) rfl rfl) | exact q_load rfl Tryz.underlying27 rfl rfl (hkv.rd (i := 1) (j := 6) rfl rfl) | exact q_load rfl Tryz.underlying27 rfl rfl (hkv.rd (i := 0) (j := 4) rfl rfl) | exact q_load rfl Tryz.underlying27 rfl rfl (hwv.rd (i := 0) (j := 0) rfl rfl))) ?_
      refine s_g rfl rfl rfl rfl rfl rfl ((by first | exact q_indexAddrVN rfl Tryz.underlying27 ti29 rfl rfl (by omega) | exact q_indexAddrN rfl Tryz.underlying27 ti29 rfl rfl (Sl.shape (n := 2) hkv rfl) (by omega) | exact q_indexAddrN rfl Tryz.underlying27 ti29 rfl rfl (Sl.shape (n := 1) hwv rfl) (by omega) | exact q_indexAddrV rfl Tryz.underlying27 ti29 rfl rfl (by omega) | exact q_indexAddr rfl Tryz.underlying27 ti29 rfl rfl (Sl.shape (n := 2) hkv rfl) (by omega) | exact q_indexAddr rfl Tryz.underlying27 ti29 rfl rfl (Sl.shape (n := 1) hwv rfl) (by omega))) ?_
      refine s_g rfl rfl rfl rfl rfl rfl (q_fieldAddr rfl Tryz.underlying29 rfl rfl ti25 rfl rfl) ?_
      refine s_g rfl rfl rfl rfl rfl rfl ((by first | exact q_load_row rfl Tryz.underlying25 rfl rfl (by rfl) | exact q_load rfl Tryz.underlying25 rfl rfl (hkv.rd (i := 1) (j := 0) rfl rfl) | exact q_load rfl Tryz.underlying25 rfl rfl (hkv.rd (i := 1) (j := 6) rfl rfl) | exact q_load rfl Tryz.underlying25 rfl rfl (hkv.rd (i := 0) (j := 4) rfl rfl) | exact q_load rfl Tryz.underlying25 rfl rfl (hwv.rd (i := 0) (j := 0) rfl rfl))) ?_
      refine s_g rfl rfl rfl rfl rfl rfl ((by first | exact q_indexAddrVN rfl Tryz.underlying25 ti9 rfl rfl (by omega) | exact q_indexAddrN rfl Tryz.underlying25 ti9 rfl rfl (Sl.shape (n := 2) hkv rfl) (by omega) | exact q_indexAddrN rfl Tryz.underlying25 ti9 rfl rfl (Sl.shape (n := 1) hwv rfl) (by omega) | exact q_indexAddrV rfl Tryz.underlying25 ti9 rfl rfl (by omega) | exact q_indexAddr rfl Tryz.underlying25 ti9 rfl rfl (Sl.shape (n := 2) hkv rfl) (by omega) | exact q_indexAddr rfl Tryz.underlying25 ti9 rfl rfl (Sl.shape (n := 1) hwv rfl) (by omega))) ?_
      refine s_g rfl rfl rfl rfl rfl rfl ((by first | exact q_load_row rfl Tryz.underlying9 rfl rfl (by rfl) | exact q_load rfl Tryz.underlying9 rfl rfl (hkv.rd (i := 1) (j := 0) rfl rfl) | exact q_load rfl Tryz.underlying9 rfl rfl (hkv.rd (i := 1) (j := 6) rfl rfl) | exact q_load rfl Tryz.underlying9 rfl rfl (hkv.rd (i := 0) (j := 4) rfl rfl) | exact q_load rfl Tryz.underlying9 rfl rfl (hwv.rd (i := 0) (j := 0) rfl rfl))) ?_
      refine s_g rfl rfl rfl rfl rfl rfl (q_eql_str rfl rfl rfl) ?_
      exact s_val rfl
    ) (wanted_n rfl) rfl rfl rfl ?_
  refine s_q rfl rfl rfl (q_move rfl rfl) ?_
  refine s_q rfl rfl rfl (q_pick_b rfl rfl) ?_
  refine s_q rfl rfl rfl (q_assign rfl rfl) ?_
  refine s_done ?_
  refine n_then ?_
  refine t_ret ?_
  refine n_ret1 rfl rfl (fun w' hw => ?_)
  -- leaf 0
  refine ⟨?_, (hw.less hJ7).below⟩
  refine congrArg (fun b => Ending.returned (Value.bool b)) (?_ : _ = true)
  rw [hk1, hk2]; rfl
set_option maxRecDepth 10000 in
theorem parseDepth_pure (n k : Int) (w : World) (hG : EnvI (look w)) : Pure Tryz.prog 3 [.int .i64 n, .int .i64 k] w (.bool true) := by
  have hm5 := tmod5 k
  obtain ⟨kk, hkk, hk5⟩ := tmod5_nat k
  refine enter Tryz.func3 rfl Tryz.ntmps3 rfl (St.start w (look w) (Le.refl _)) ?_
  refine t_seq ?_
  refine t_region ?_
  refine l_q rfl rfl rfl (q_assign rfl rfl) ?_
  refine l_nil ?_
  refine n_then ?_
  refine t_seq ?_
  refine t_seq ?_
  refine t_region ?_
  refine l_q rfl rfl rfl (quiet_call rfl rfl rfl Tryz.func8 (by kernel_rfl) rfl ((fun w hw => awake_pure w (hG.mono hw.le)))) ?_
  refine l_q rfl rfl rfl (q_not rfl rfl) ?_
  refine l_nil ?_
  refine n_then ?_
  refine t_cond rfl (fun hc0 => ?_) (fun hc0 => ?_)
  · skip
    try simp at hc0
  · skip
    try simp at hc0
    refine t_skip ?_
    refine n_then ?_
    refine t_seq ?_
    refine t_seq ?_
    refine t_qreg ?_
    refine s_q rfl rfl rfl (q_move rfl rfl) ?_
    refine s_q rfl rfl rfl (q_lss rfl rfl rfl) ?_
    refine s_q rfl rfl rfl (q_move rfl rfl) ?_
    refine s_or2 2 2 18 21 20 _ _ rfl rfl rfl rfl rfl rfl (fun h21 => by
        try simp at h21
        refine s_g rfl rfl rfl rfl rfl rfl (q_move rfl rfl) ?_
        refine s_g rfl rfl rfl rfl rfl rfl (q_gtr rfl rfl rfl) ?_
        exact s_val rfl
      ) (wanted_n rfl) rfl rfl rfl ?_
    refine s_done ?_
    refine n_then ?_
    refine t_cond rfl (fun hc1 => ?_) (fun hc1 => ?_)
    · skip
      refine t_seq ?_
      refine t_region ?_
      refine l_q rfl rfl rfl (q_assign rfl rfl) ?_
      refine l_nil ?_
      refine n_then ?_
      refine t_ret ?_
      refine n_ret_then ?_
      refine n_ret1 rfl rfl (fun w' hw => ?_)
      -- leaf 0
      exact ⟨rfl, hw.below⟩
    · skip
      have h1 := hc1
      rw [Bool.or_eq_false_iff, decide_eq_false_iff_not, decide_eq_false_iff_not] at h1
      obtain ⟨n, rfl⟩ : ∃ m : Nat, n = m := ⟨n.toNat, by omega⟩
      refine t_skip ?_
      refine n_then ?_
      refine t_seq ?_
      refine t_region ?_
      refine l_q rfl rfl rfl (q_buildA (cs := (kkC 0).toArray) rfl Tryz.underlying23 ti23 ti9 rfl rfl) ?_
      refine l_q rfl rfl rfl (q_buildA (cs := (kkC 1).toArray) rfl Tryz.underlying23 ti23 ti9 rfl rfl) ?_
      refine l_q rfl rfl rfl (q_buildA (cs := (kkC 2).toArray) rfl Tryz.underlying23 ti23 ti9 rfl rfl) ?_
      refine l_q rfl rfl rfl (q_buildA (cs := (kkC 3).toArray) rfl Tryz.underlying23 ti23 ti9 rfl rfl) ?_
      refine l_q rfl rfl rfl (q_buildA (cs := (kkC 4).toArray) rfl Tryz.underlying23 ti23 ti9 rfl rfl) ?_
      refine l_e rfl rfl rfl (e_buildSliceN (vs := [_, _, _, _, _]) (css := [kkC 0, kkC 1, kkC 2, kkC 3, kkC 4]) rfl Tryz.underlying24 ti23 rfl rfl rfl rfl (rfl) (by simp [kkC])) ?_
      rintro _ _ _ ⟨b27, rfl, rfl, rfl⟩
      refine l_heap (H' := tvec 23 2 kkC (.slice (some ⟨b27, 0, none⟩) 5 5) [0, 1, 2, 3, 4] :: _) ?_ (fun _ h => st_rowVec h rfl (by decide))
      refine l_freezeT (f := kkC) (l := [0, 1, 2, 3, 4]) (.slice (some ⟨b27, 0, none⟩) 5 5) (fun _ => rfl) (fun Jf hJf hvf => ?_)
      refine l_q rfl rfl rfl (q_assign rfl rfl) ?_
      refine l_nil ?_
      refine n_then ?_
      refine t_seq ?_
      refine t_region ?_
      refine l_q rfl rfl rfl (q_move rfl rfl) ?_
      refine l_q rfl rfl rfl (q_move rfl rfl) ?_
      refine l_q rfl rfl rfl (q_rem rfl rfl rfl (by decide)) ?_
      refine l_q rfl rfl rfl (q_add64 rfl rfl rfl (by omega)) ?_
      refine l_q rfl rfl rfl (q_rem rfl rfl rfl (by decide)) ?_
      rw [hkk]
      refine l_q rfl rfl rfl ((by first | exact q_indexAddrVN rfl Tryz.underlying24 ti23 rfl rfl (by omega) | exact q_indexAddrN rfl Tryz.underlying24 ti23 rfl rfl (Sl.shape (n := 5) hvf rfl) (by omega) | exact q_indexAddrV rfl Tryz.underlying24 ti23 rfl rfl (by omega) | exact q_indexAddr rfl Tryz.underlying24 ti23 rfl rfl (Sl.shape (n := 5) hvf rfl) (by omega))) ?_
      refine l_q rfl rfl rfl (q_load_aggA rfl Tryz.underlying23 ti23 rfl rfl (hvf.rds (kk_get hk5))) ?_
      refine l_e rfl rfl rfl (e_alloc rfl ti23 rfl) ?_
      rintro _ _ _ ⟨b6, rfl, rfl, rfl⟩
      refine l_e0 rfl rfl ((by first | exact e_store_all rfl ti23 rfl rfl rfl (by first | exact chC_ones _ | exact pcC_ones _ | exact kkC_ones _ | exact hn54.ones | simp [Value.oneCell', str, u8]) rfl | exact e_store_agg rfl ti23 rfl rfl rfl (by first | exact chC_ones _ | exact pcC_ones _ | exact kkC_ones _ | exact hn54.ones | simp [Value.oneCell', str, u8]) rfl)) ?_
      rintro _ _ _ ⟨rfl, rfl⟩
      refine l_heap (H' := row b6 23 (kkC kk) :: _) ?_ (fun _ h => h)
      refine l_nil ?_
      refine n_then ?_
      refine t_seq ?_
      refine t_region ?_
      refine l_q rfl rfl rfl (q_assign rfl rfl) ?_
      refine l_nil ?_
      refine n_then ?_
      refine t_seq ?_
      refine t_seq ?_
      refine t_region ?_
      refine l_q rfl rfl rfl (q_move rfl rfl) ?_
      refine l_q rfl rfl rfl (q_move rfl rfl) ?_
      refine l_nil ?_
      refine n_then ?_
      refine t_block ?_
      refine t_loopE (ι := Nat) (fun zz => zz ≤ n) (fun zz => n - zz) (fun zz => [(36, .int .i64 (zz : Int)), (7, str (deepS kk zz))]) [(0, _), (1, _), (4, _), (15, _), (21, _), (5, _), (6, _), (35, _)] (fun zz => Jf) (fun zz => [row b6 23 (kkC kk)]) 0 ?_ (sub_cons rfl (sub_cons rfl sub_nil)) (sub_cons rfl (sub_cons rfl (sub_cons rfl (sub_cons rfl (sub_cons rfl (sub_cons rfl (sub_cons rfl (sub_cons rfl sub_nil)))))))) (fun _ h => subC_st h) ?_
      · try dsimp only
        exact Nat.zero_le _
      rintro i hi
      try dsimp only at *
      have hdl := deepS_len hk5 i
      have hol := oc_len hk5
      refine t_seq ?_
      refine t_region ?_
      refine l_q rfl rfl rfl (q_lss rfl rfl rfl) ?_
      refine l_nil ?_
      refine n_then ?_
      refine t_seq ?_
      refine t_cond rfl (fun hc2 => ?_) (fun hc2 => ?_)
      · skip
        try simp at hc2
        refine t_skip ?_
        refine n_then ?_
        refine t_seq ?_
        refine t_block ?_
        refine t_region ?_
        refine l_q rfl rfl rfl (q_indexAddr_arr rfl Tryz.underlying23 ti9 rfl rfl (by omega)) ?_
        refine l_q rfl rfl rfl (q_load_row rfl Tryz.underlying9 rfl rfl (by rfl)) ?_
        refine l_q rfl rfl rfl (q_move rfl rfl) ?_
        refine l_q rfl rfl rfl (q_cat rfl rfl rfl (by first | omega | (simp only [List.length_append, List.length_cons, List.length_nil, List.length_take, List.length_drop]; omega))) ?_
        refine l_q rfl rfl rfl (q_indexAddr_arr rfl Tryz.underlying23 ti9 rfl rfl (by omega)) ?_
        refine l_q rfl rfl rfl (q_load_row rfl Tryz.underlying9 rfl rfl (by rfl)) ?_
        refine l_q rfl rfl rfl (q_cat rfl rfl rfl (by first | omega | (simp only [List.length_append, List.length_cons, List.length_nil, List.length_take, List.length_drop]; omega))) ?_
        refine l_q rfl rfl rfl (q_assign rfl rfl) ?_
        refine l_nil ?_
        refine n_block ?_
        refine n_then ?_
        refine t_region ?_
        refine l_q rfl rfl rfl (q_add64 rfl rfl rfl (by omega)) ?_
        refine l_q rfl rfl rfl (q_move rfl rfl) ?_
        refine l_nil ?_
        refine n_roundE (i + 1) ?_ ?_ (sub_cons rfl (sub_cons rfl sub_nil)) (sub_cons rfl (sub_cons rfl (sub_cons rfl (sub_cons rfl (sub_cons rfl (sub_cons rfl (sub_cons rfl (sub_cons rfl sub_nil)))))))) (fun _ h => by try dsimp only; exact subC_st h)
        · try dsimp only
          omega
        · try dsimp only
          omega
      · skip
        try simp at hc2
        have hin : i = n := by omega
        rw [hin]
        refine t_exit ?_
        refine n_exit_then ?_
        refine n_exit_then ?_
        refine n_exit_block ?_
        refine n_then ?_
        refine t_seq ?_
        refine t_region ?_
        refine l_q rfl rfl rfl (q_move rfl rfl) ?_
        refine l_q rfl rfl rfl (q_assign rfl rfl) ?_
        refine l_nil ?_
        refine n_then ?_
        refine t_seq ?_
        refine t_seq ?_
        refine t_region ?_
        refine l_q rfl rfl rfl (q_indexAddr_arr rfl Tryz.underlying23 ti9 rfl rfl (by omega)) ?_
        refine l_q rfl rfl rfl (q_load_row rfl Tryz.underlying9 rfl rfl (by rfl)) ?_
        refine l_q rfl rfl rfl (q_eql_str rfl rfl rfl) ?_
        refine l_nil ?_
        refine n_then ?_
        have h3 := open4 hk5
        refine t_cond rfl (fun hc3 => ?_) (fun hc3 => ?_)
        · skip
          rw [h3] at hc3
          have h4 : kk = 4 := of_decide_eq_true hc3
          refine t_region ?_
          refine l_q rfl rfl rfl (q_move rfl rfl) ?_
          refine l_q rfl rfl rfl (q_mul64 rfl rfl rfl (by omega)) ?_
          refine l_q rfl rfl rfl (q_assign rfl rfl) ?_
          refine l_nil ?_
          refine n_then ?_
          refine t_seq ?_
          refine t_region ?_
          refine l_q rfl rfl rfl (q_move rfl rfl) ?_
          refine l_e rfl rfl rfl (eff_call rfl rfl rfl Tryz.func9 (by kernel_rfl) rfl (fun w hw => first_calls (deepS kk n) (by have := deepS_len hk5 n; omega) (0) _ _ _ w (hG.mono hJf) hw)) ?_
          rintro _ J54 _ ⟨hJ54, rfl, c54, rfl, hn54⟩
          refine l_q rfl rfl rfl (q_move rfl rfl) ?_
          refine l_q rfl rfl rfl (q_extract rfl rfl rfl) ?_
          refine l_q rfl rfl rfl (q_extract rfl rfl rfl) ?_
          refine l_q rfl rfl rfl (q_extract rfl rfl rfl) ?_
          refine l_q rfl rfl rfl (q_extract rfl rfl rfl) ?_
          refine l_q rfl rfl rfl (q_extract rfl rfl rfl) ?_
          refine l_e rfl rfl rfl (e_alloc rfl ti29 rfl) ?_
          rintro _ _ _ ⟨b9, rfl, rfl, rfl⟩
          refine l_e0 rfl rfl ((by first | exact e_store_all rfl ti29 rfl rfl rfl (by first | exact chC_ones _ | exact pcC_ones _ | exact kkC_ones _ | exact hn54.ones | simp [Value.oneCell', str, u8]) rfl | exact e_store_agg rfl ti29 rfl rfl rfl (by first | exact chC_ones _ | exact pcC_ones _ | exact kkC_ones _ | exact hn54.ones | simp [Value.oneCell', str, u8]) rfl)) ?_
          rintro _ _ _ ⟨rfl, rfl⟩
          refine l_heap (H' := row b9 29 (ncC c54) :: _) ?_ (fun _ h => h)
          refine l_q rfl rfl rfl (q_assign rfl rfl) ?_
          refine l_q rfl rfl rfl (q_assign rfl rfl) ?_
          refine l_q rfl rfl rfl (q_assign rfl rfl) ?_
          refine l_q rfl rfl rfl (q_assign rfl rfl) ?_
          refine l_nil ?_
          refine n_then ?_
          refine t_seq ?_
          refine t_seq ?_
          refine t_region ?_
          refine l_q rfl rfl rfl (q_move rfl rfl) ?_
          refine l_q rfl rfl rfl (q_gtr rfl rfl rfl) ?_
          refine l_nil ?_
          refine n_then ?_
          refine t_cond rfl (fun hc4 => ?_) (fun hc4 => ?_)
          · skip
            try simp at hc4
            refine t_seq ?_
            refine t_qreg ?_
            refine s_q rfl rfl rfl (q_move rfl rfl) ?_
            refine s_q rfl rfl rfl (q_eql rfl rfl rfl) ?_
            refine s_q rfl rfl rfl (q_move rfl rfl) ?_
            refine s_and2 2 2 64 67 66 _ _ rfl rfl rfl rfl rfl rfl (fun h67 => by
                try simp at h67
                refine s_g rfl rfl rfl rfl rfl rfl (q_move rfl rfl) ?_
                refine s_g rfl rfl rfl rfl rfl rfl (q_not rfl rfl) ?_
                exact s_val rfl
              ) (wanted_n rfl) rfl rfl rfl ?_
            refine s_q rfl rfl rfl (q_assign rfl rfl) ?_
            refine s_done ?_
            refine n_then ?_
            refine t_ret ?_
            refine n_ret_then ?_
            refine n_ret1 rfl rfl (fun w' hw => ?_)
            -- leaf 1
            refine ⟨?_, (hw.less (hJf.trans hJ54)).below⟩
            have hfd := first_deep (k := kk) (n := n) hk5 (by have := deepS_len hk5 n; omega)
            rw [show dq kk = 2 from by rw [h4]; rfl] at hfd
            obtain ⟨e1, e2⟩ := hfd.2 (by omega)
            rw [e1, e2]; rfl
          · skip
            try simp at hc4
            refine t_skip ?_
            refine n_then ?_
            refine t_seq ?_
            refine t_qreg ?_
            refine s_q rfl rfl rfl (q_move rfl rfl) ?_
            refine s_q rfl rfl rfl (q_eql rfl rfl rfl) ?_
            refine s_q rfl rfl rfl (q_move rfl rfl) ?_
            refine s_and2 1 2 70 72 71 _ _ rfl rfl rfl rfl rfl rfl (fun h72 => by
                try simp at h72
                refine s_g rfl rfl rfl rfl rfl rfl (q_move rfl rfl) ?_
                exact s_val rfl
              ) (wanted_n rfl) rfl rfl rfl ?_
            refine s_q rfl rfl rfl (q_assign rfl rfl) ?_
            refine s_done ?_
            refine n_then ?_
            refine t_ret ?_
            refine n_ret1 rfl rfl (fun w' hw => ?_)
            -- leaf 2
            refine ⟨?_, (hw.less (hJf.trans hJ54)).below⟩
            have hfd := first_deep (k := kk) (n := n) hk5 (by have := deepS_len hk5 n; omega)
            rw [show dq kk = 2 from by rw [h4]; rfl] at hfd
            obtain ⟨e1, e2⟩ := hfd.1 (by omega)
            rw [e1, e2]; rfl
        · skip
          rw [h3] at hc3
          have h4 : kk ≠ 4 := of_decide_eq_false hc3
          refine t_skip ?_
          refine n_then ?_
          refine t_seq ?_
          refine t_region ?_
          refine l_q rfl rfl rfl (q_move rfl rfl) ?_
          refine l_e rfl rfl rfl (eff_call rfl rfl rfl Tryz.func9 (by kernel_rfl) rfl (fun w hw => first_calls (deepS kk n) (by have := deepS_len hk5 n; omega) (0) _ _ _ w (hG.mono hJf) hw)) ?_
          rintro _ J54 _ ⟨hJ54, rfl, c54, rfl, hn54⟩
          refine l_q rfl rfl rfl (q_move rfl rfl) ?_
          refine l_q rfl rfl rfl (q_extract rfl rfl rfl) ?_
          refine l_q rfl rfl rfl (q_extract rfl rfl rfl) ?_
          refine l_q rfl rfl rfl (q_extract rfl rfl rfl) ?_
          refine l_q rfl rfl rfl (q_extract rfl rfl rfl) ?_
          refine l_q rfl rfl rfl (q_extract rfl rfl rfl) ?_
          refine l_e rfl rfl rfl (e_alloc rfl ti29 rfl) ?_
          rintro _ _ _ ⟨b9, rfl, rfl, rfl⟩
          refine l_e0 rfl rfl ((by first | exact e_store_all rfl ti29 rfl rfl rfl (by first | exact chC_ones _ | exact pcC_ones _ | exact kkC_ones _ | exact hn54.ones | simp [Value.oneCell', str, u8]) rfl | exact e_store_agg rfl ti29 rfl rfl rfl (by first | exact chC_ones _ | exact pcC_ones _ | exact kkC_ones _ | exact hn54.ones | simp [Value.oneCell', str, u8]) rfl)) ?_
          rintro _ _ _ ⟨rfl, rfl⟩
          refine l_heap (H' := row b9 29 (ncC c54) :: _) ?_ (fun _ h => h)
          refine l_q rfl rfl rfl (q_assign rfl rfl) ?_
          refine l_q rfl rfl rfl (q_assign rfl rfl) ?_
          refine l_q rfl rfl rfl (q_assign rfl rfl) ?_
          refine l_q rfl rfl rfl (q_assign rfl rfl) ?_
          refine l_nil ?_
          refine n_then ?_
          refine t_seq ?_
          refine t_seq ?_
          refine t_region ?_
          refine l_q rfl rfl rfl (q_move rfl rfl) ?_
          refine l_q rfl rfl rfl (q_gtr rfl rfl rfl) ?_
          refine l_nil ?_
          refine n_then ?_
          refine t_cond rfl (fun hc5 => ?_) (fun hc5 => ?_)
          · skip
            try simp at hc5
            refine t_seq ?_
            refine t_qreg ?_
            refine s_q rfl rfl rfl (q_move rfl rfl) ?_
            refine s_q rfl rfl rfl (q_eql rfl rfl rfl) ?_
            refine s_q rfl rfl rfl (q_move rfl rfl) ?_
            refine s_and2 2 2 64 67 66 _ _ rfl rfl rfl rfl rfl rfl (fun h67 => by
                try simp at h67
                refine s_g rfl rfl rfl rfl rfl rfl (q_move rfl rfl) ?_
                refine s_g rfl rfl rfl rfl rfl rfl (q_not rfl rfl) ?_
                exact s_val rfl
              ) (wanted_n rfl) rfl rfl rfl ?_
            refine s_q rfl rfl rfl (q_assign rfl rfl) ?_
            refine s_done ?_
            refine n_then ?_
            refine t_ret ?_
            refine n_ret_then ?_
            refine n_ret1 rfl rfl (fun w' hw => ?_)
            -- leaf 3
            refine ⟨?_, (hw.less (hJf.trans hJ54)).below⟩
            have hfd := first_deep (k := kk) (n := n) hk5 (by have := deepS_len hk5 n; omega)
            rw [show dq kk = 1 from by unfold dq; rw [if_neg h4]] at hfd
            obtain ⟨e1, e2⟩ := hfd.2 (by omega)
            rw [e1, e2]; rfl
          · skip
            try simp at hc5
            refine t_skip ?_
            refine n_then ?_
            refine t_seq ?_
            refine t_qreg ?_
            refine s_q rfl rfl rfl (q_move rfl rfl) ?_
            refine s_q rfl rfl rfl (q_eql rfl rfl rfl) ?_
            refine s_q rfl rfl rfl (q_move rfl rfl) ?_
            refine s_and2 1 2 70 72 71 _ _ rfl rfl rfl rfl rfl rfl (fun h72 => by
                try simp at h72
                refine s_g rfl rfl rfl rfl rfl rfl (q_move rfl rfl) ?_
                exact s_val rfl
              ) (wanted_n rfl) rfl rfl rfl ?_
            refine s_q rfl rfl rfl (q_assign rfl rfl) ?_
            refine s_done ?_
            refine n_then ?_
            refine t_ret ?_
            refine n_ret1 rfl rfl (fun w' hw => ?_)
            -- leaf 4
            refine ⟨?_, (hw.less (hJf.trans hJ54)).below⟩
            have hfd := first_deep (k := kk) (n := n) hk5 (by have := deepS_len hk5 n; omega)
            rw [show dq kk = 1 from by unfold dq; rw [if_neg h4]] at hfd
            obtain ⟨e1, e2⟩ := hfd.1 (by omega)
            rw [e1, e2]; rfl
end Go.Tri
