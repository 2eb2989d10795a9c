/-
  The statements: awake, ParseDepth.
-/
import Derived.Test.YtomcodpgickmgaaGreatDoorQD5
import Derived.Test.YtomcodpgickmgaaGreatDoorPCode
import Derived.Test.YtomcodpgickmgaaGreatDoorPOpen
namespace Go.Tri
open Go.Proofs Go.RowKit
set_option maxRecDepth 100000
def awakeS6 : List UInt8 := [97, 32, 38, 38, 32, 98, 32, 124, 32, 99, 10]
def smp (w : List UInt8) : Nd := .mk 1 false false [] [w] [] []
def awakeN6 : Nd := ndK 3 [smp [97], ndK 2 [smp [98], smp [99]]]
theorem awake_first : firstP' awakeS6 0 = ⟨awakeN6, true, 11, 0, 0⟩ := by kernel_rfl
theorem at2 {I : Look} {k : Nat} {x y : Nd} {c : NC} (h : NdAt I (ndK k [x, y]) c) : c.kind = k ∧ ∃ a b, Sl I 7 c.kv ([a, b].map ncC) ∧ NdAt I x a ∧ NdAt I y b := by
  unfold ndK NdAt at h
  obtain ⟨h1, -, -, -, -, -, cs, h7, h8⟩ := h
  match cs, h8 with
  | [a, b], h8 =>
    unfold NdsAt at h8
    obtain ⟨h9, h8⟩ := h8
    unfold NdsAt at h8
    exact ⟨h1, a, b, h7, h9, h8.1⟩
  | [], h8 => unfold NdsAt at h8; exact h8.elim
  | [a], h8 => unfold NdsAt at h8; obtain ⟨_, h8⟩ := h8; unfold NdsAt at h8; exact h8.elim
  | a :: b :: c :: r, h8 => unfold NdsAt at h8; obtain ⟨_, h8⟩ := h8; unfold NdsAt at h8; obtain ⟨_, h8⟩ := h8; unfold NdsAt at h8; exact h8.elim
theorem atW {I : Look} {w : List UInt8} {c : NC} (h : NdAt I (smp w) c) : Sl I 1 c.wv ([w].map stC) := by
  unfold smp NdAt at h
  exact h.2.2.2.2.1
theorem awake_at {I : Look} {c : NC} (h : NdAt I awakeN6 c) : c.kind = 3 ∧ ∃ a b, Sl I 7 c.kv ([a, b].map ncC) ∧ b.kind = 2 ∧ Sl I 1 a.wv ([[97]].map stC) ∧ ∃ x y, Sl I 7 b.kv ([x, y].map ncC) := by
  obtain ⟨h1, a, b, h2, h3, h4⟩ := at2 h
  obtain ⟨h5, x, y, h6, -, -⟩ := at2 h4
  exact ⟨h1, a, b, h2, h5, atW h3, x, y, h6⟩
set_option maxRecDepth 10000 in
theorem awake_pure (w : World) (hG : EnvI (look w)) : Pure Tryz.prog 8 [] w (.bool true) := by
  refine enter Tryz.func8 rfl Tryz.ntmps8 rfl (St.start w (look w) (Le.refl _)) ?_
  refine t_seq ?_
  refine t_region ?_
  refine l_q rfl rfl rfl (q_assign rfl rfl) ?_
  refine l_nil ?_
  refine n_then ?_
  refine t_seq ?_
  refine t_region ?_
  refine l_e rfl rfl rfl (eff_call rfl rfl rfl Tryz.func9 (by kernel_rfl) rfl (fun w hw => first_calls (awakeS6) (by decide) (0) _ _ _ w (hG) hw)) ?_
  rintro _ J7 _ ⟨hJ7, rfl, c7, rfl, hn7⟩
  rw [awake_first] at hn7 ⊢
  dsimp only at hn7 ⊢
  obtain ⟨hk1, ca, cb, hkv, hk2, hwv, cx, cy, hkb⟩ := awake_at hn7
  refine l_q rfl rfl rfl (q_move rfl rfl) ?_
  refine l_q rfl rfl rfl (q_extract rfl rfl rfl) ?_
  refine l_q rfl rfl rfl (q_extract rfl rfl rfl) ?_
  refine l_q rfl rfl rfl (q_extract rfl rfl rfl) ?_
  refine l_q rfl rfl rfl (q_extract rfl rfl rfl) ?_
  refine l_q rfl rfl rfl (q_extract rfl rfl rfl) ?_
  refine l_e rfl rfl rfl (e_alloc rfl ti29 rfl) ?_
  rintro _ _ _ ⟨b1, rfl, rfl, rfl⟩
  refine l_e0 rfl rfl ((by first | exact e_store_all rfl ti29 rfl rfl rfl (by first | exact chC_ones _ | exact pcC_ones _ | exact hn7.ones | simp [Value.oneCell', str, u8]) rfl | exact e_store_agg rfl ti29 rfl rfl rfl (by first | exact chC_ones _ | exact pcC_ones _ | exact hn7.ones | simp [Value.oneCell', str, u8]) rfl)) ?_
  rintro _ _ _ ⟨rfl, rfl⟩
  refine l_heap (H' := row b1 29 (ncC c7) :: _) ?_ (fun _ h => h)
  refine l_q rfl rfl rfl (q_assign rfl rfl) ?_
  refine l_q rfl rfl rfl (q_assign rfl rfl) ?_
  refine l_q rfl rfl rfl (q_assign rfl rfl) ?_
  refine l_q rfl rfl rfl (q_assign rfl rfl) ?_
  refine l_nil ?_
  refine n_then ?_
  refine t_seq ?_
  refine t_qreg ?_
  refine s_q rfl rfl rfl (q_move rfl rfl) ?_
  refine s_q rfl rfl rfl (q_move rfl rfl) ?_
  refine s_and2 2 1 14 17 16 _ _ rfl rfl rfl rfl rfl rfl (fun h17 => by
      try simp at h17
      refine s_g rfl rfl rfl rfl rfl rfl (q_move rfl rfl) ?_
      refine s_g rfl rfl rfl rfl rfl rfl (q_eql rfl rfl rfl) ?_
      exact s_val rfl
    ) (wanted_n rfl) rfl rfl rfl ?_
  refine s_q rfl rfl rfl (q_move rfl rfl) ?_
  refine s_and2 2 5 18 21 20 _ _ rfl rfl rfl rfl rfl rfl (fun h21 => by
      try simp at h21
      refine s_g rfl rfl rfl rfl rfl rfl (q_move rfl rfl) ?_
      refine s_g rfl rfl rfl rfl rfl rfl (q_eql rfl rfl rfl) ?_
      exact s_val rfl
    ) (wanted_n rfl) rfl rfl rfl ?_
  refine s_q rfl rfl rfl (q_move rfl rfl) ?_
  refine s_and2 3 9 22 26 25 _ _ rfl rfl rfl rfl rfl rfl (fun h26 => by
      try simp at h26
      refine s_g rfl rfl rfl rfl rfl rfl (q_fieldAddr rfl Tryz.underlying29 rfl rfl ti3 rfl rfl) ?_
      refine s_g rfl rfl rfl rfl rfl rfl ((by first | exact q_load_row rfl Tryz.underlying3 rfl rfl (by rfl) | exact q_load rfl Tryz.underlying3 rfl rfl (hkv.rd (i := 1) (j := 0) rfl rfl) | exact q_load rfl Tryz.underlying3 rfl rfl (hkv.rd (i := 1) (j := 6) rfl rfl) | exact q_load rfl Tryz.underlying3 rfl rfl (hkv.rd (i := 0) (j := 4) rfl rfl) | exact q_load rfl Tryz.underlying3 rfl rfl (hwv.rd (i := 0) (j := 0) rfl rfl))) ?_
      refine s_g rfl rfl rfl rfl rfl rfl (q_eql rfl rfl rfl) ?_
      exact s_val rfl
    ) (wanted_n rfl) rfl rfl rfl ?_
  refine s_q rfl rfl rfl (q_move rfl rfl) ?_
  refine s_and2 4 14 27 32 31 _ _ rfl rfl rfl rfl rfl rfl (fun h32 => by
      try simp at h32
      refine s_g rfl rfl rfl rfl rfl rfl (q_fieldAddr rfl Tryz.underlying29 rfl rfl ti27 rfl rfl) ?_
      refine s_g rfl rfl rfl rfl rfl rfl ((by first | exact q_load_row rfl Tryz.underlying27 rfl rfl (by rfl) | exact q_load rfl Tryz.underlying27 rfl rfl (hkv.rd (i := 1) (j := 0) rfl rfl) | exact q_load rfl Tryz.underlying27 rfl rfl (hkv.rd (i := 1) (j := 6) rfl rfl) | exact q_load rfl Tryz.underlying27 rfl rfl (hkv.rd (i := 0) (j := 4) rfl rfl) | exact q_load rfl Tryz.underlying27 rfl rfl (hwv.rd (i := 0) (j := 0) rfl rfl))) ?_
      refine s_g rfl rfl rfl rfl rfl rfl ((by first | exact q_lenV rfl Tryz.underlying27 rfl | exact q_len rfl Tryz.underlying27 rfl (Sl.lenOf (n := 2) hkv rfl) | exact q_len rfl Tryz.underlying27 rfl (Sl.lenOf (n := 2) hkb rfl))) ?_
      refine s_g rfl rfl rfl rfl rfl rfl (q_eql rfl rfl rfl) ?_
      exact s_val rfl
    ) (wanted_n rfl) rfl rfl rfl ?_
  refine s_q rfl rfl rfl (q_move rfl rfl) ?_
  refine s_and2 6 20 33 40 39 _ _ rfl rfl rfl rfl rfl rfl (fun h40 => by
      try simp at h40
      refine s_g rfl rfl rfl rfl rfl rfl (q_fieldAddr rfl Tryz.underlying29 rfl rfl ti27 rfl rfl) ?_
      refine s_g rfl rfl rfl rfl rfl rfl ((by first | exact q_load_row rfl Tryz.underlying27 rfl rfl (by rfl) | exact q_load rfl Tryz.underlying27 rfl rfl (hkv.rd (i := 1) (j := 0) rfl rfl) | exact q_load rfl Tryz.underlying27 rfl rfl (hkv.rd (i := 1) (j := 6) rfl rfl) | exact q_load rfl Tryz.underlying27 rfl rfl (hkv.rd (i := 0) (j := 4) rfl rfl) | exact q_load rfl Tryz.underlying27 rfl rfl (hwv.rd (i := 0) (j := 0) rfl rfl))) ?_
      refine s_g rfl rfl rfl rfl rfl rfl ((by first | exact q_indexAddrVN rfl Tryz.underlying27 ti29 rfl rfl (by omega) | exact q_indexAddrN rfl Tryz.underlying27 ti29 rfl rfl (Sl.shape (n := 2) hkv rfl) (by omega) | exact q_indexAddrN rfl Tryz.underlying27 ti29 rfl rfl (Sl.shape (n := 1) hwv rfl) (by omega) | exact q_indexAddrV rfl Tryz.underlying27 ti29 rfl rfl (by omega) | exact q_indexAddr rfl Tryz.underlying27 ti29 rfl rfl (Sl.shape (n := 2) hkv rfl) (by omega) | exact q_indexAddr rfl Tryz.underlying27 ti29 rfl rfl (Sl.shape (n := 1) hwv rfl) (by omega))) ?_
      refine s_g rfl rfl rfl rfl rfl rfl (q_fieldAddr rfl Tryz.underlying29 rfl rfl ti3 rfl rfl) ?_
      refine s_g rfl rfl rfl rfl rfl rfl ((by first | exact q_load_row rfl Tryz.underlying3 rfl rfl (by rfl) | exact q_load rfl Tryz.underlying3 rfl rfl (hkv.rd (i := 1) (j := 0) rfl rfl) | exact q_load rfl Tryz.underlying3 rfl rfl (hkv.rd (i := 1) (j := 6) rfl rfl) | exact q_load rfl Tryz.underlying3 rfl rfl (hkv.rd (i := 0) (j := 4) rfl rfl) | exact q_load rfl Tryz.underlying3 rfl rfl (hwv.rd (i := 0) (j := 0) rfl rfl))) ?_
      refine s_g rfl rfl rfl rfl rfl rfl (q_eql rfl rfl rfl) ?_
      exact s_val rfl
    ) (wanted_n rfl) rfl rfl rfl ?_
  refine s_q rfl rfl rfl (q_move rfl rfl) ?_
  refine s_and2 7 28 41 49 48 _ _ rfl rfl rfl rfl rfl rfl (fun h49 => by
      try simp at h49
      refine s_g rfl rfl rfl rfl rfl rfl (q_fieldAddr rfl Tryz.underlying29 rfl rfl ti27 rfl rfl) ?_
      refine s_g rfl rfl rfl rfl rfl rfl ((by first | exact q_load_row rfl Tryz.underlying27 rfl rfl (by rfl) | exact q_load rfl Tryz.underlying27 rfl rfl (hkv.rd (i := 1) (j := 0) rfl rfl) | exact q_load rfl Tryz.underlying27 rfl rfl (hkv.rd (i := 1) (j := 6) rfl rfl) | exact q_load rfl Tryz.underlying27 rfl rfl (hkv.rd (i := 0) (j := 4) rfl rfl) | exact q_load rfl Tryz.underlying27 rfl rfl (hwv.rd (i := 0) (j := 0) rfl rfl))) ?_
      refine s_g rfl rfl rfl rfl rfl rfl ((by first | exact q_indexAddrVN rfl Tryz.underlying27 ti29 rfl rfl (by omega) | exact q_indexAddrN rfl Tryz.underlying27 ti29 rfl rfl (Sl.shape (n := 2) hkv rfl) (by omega) | exact q_indexAddrN rfl Tryz.underlying27 ti29 rfl rfl (Sl.shape (n := 1) hwv rfl) (by omega) | exact q_indexAddrV rfl Tryz.underlying27 ti29 rfl rfl (by omega) | exact q_indexAddr rfl Tryz.underlying27 ti29 rfl rfl (Sl.shape (n := 2) hkv rfl) (by omega) | exact q_indexAddr rfl Tryz.underlying27 ti29 rfl rfl (Sl.shape (n := 1) hwv rfl) (by omega))) ?_
      refine s_g rfl rfl rfl rfl rfl rfl (q_fieldAddr rfl Tryz.underlying29 rfl rfl ti27 rfl rfl) ?_
      refine s_g rfl rfl rfl rfl rfl rfl ((by first | exact q_load_row rfl Tryz.underlying27 rfl rfl (by rfl) | exact q_load rfl Tryz.underlying27 rfl rfl (hkv.rd (i := 1) (j := 0) rfl rfl) | exact q_load rfl Tryz.underlying27 rfl rfl (hkv.rd (i := 1) (j := 6) rfl rfl) | exact q_load rfl Tryz.underlying27 rfl rfl (hkv.rd (i := 0) (j := 4) rfl rfl) | exact q_load rfl Tryz.underlying27 rfl rfl (hwv.rd (i := 0) (j := 0) rfl rfl))) ?_
      refine s_g rfl rfl rfl rfl rfl rfl ((by first | exact q_lenV rfl Tryz.underlying27 rfl | exact q_len rfl Tryz.underlying27 rfl (Sl.lenOf (n := 2) hkv rfl) | exact q_len rfl Tryz.underlying27 rfl (Sl.lenOf (n := 2) hkb rfl))) ?_
      refine s_g rfl rfl rfl rfl rfl rfl (q_eql rfl rfl rfl) ?_
      exact s_val rfl
    ) (wanted_n rfl) rfl rfl rfl ?_
  refine s_q rfl rfl rfl (q_move rfl rfl) ?_
  refine s_and2 8 37 50 59 58 _ _ rfl rfl rfl rfl rfl rfl (fun h59 => by
      try simp at h59
      refine s_g rfl rfl rfl rfl rfl rfl (q_fieldAddr rfl Tryz.underlying29 rfl rfl ti27 rfl rfl) ?_
      refine s_g rfl rfl rfl rfl rfl rfl ((by first | exact q_load_row rfl Tryz.underlying27 rfl rfl (by rfl) | exact q_load rfl Tryz.underlying27 rfl rfl (hkv.rd (i := 1) (j := 0) rfl rfl) | exact q_load rfl Tryz.underlying27 rfl rfl (hkv.rd (i := 1) (j := 6) rfl rfl) | exact q_load rfl Tryz.underlying27 rfl rfl (hkv.rd (i := 0) (j := 4) rfl rfl) | exact q_load rfl Tryz.underlying27 rfl rfl (hwv.rd (i := 0) (j := 0) rfl rfl))) ?_
      refine s_g rfl rfl rfl rfl rfl rfl ((by first | exact q_indexAddrVN rfl Tryz.underlying27 ti29 rfl rfl (by omega) | exact q_indexAddrN rfl Tryz.underlying27 ti29 rfl rfl (Sl.shape (n := 2) hkv rfl) (by omega) | exact q_indexAddrN rfl Tryz.underlying27 ti29 rfl rfl (Sl.shape (n := 1) hwv rfl) (by omega) | exact q_indexAddrV rfl Tryz.underlying27 ti29 rfl rfl (by omega) | exact q_indexAddr rfl Tryz.underlying27 ti29 rfl rfl (Sl.shape (n := 2) hkv rfl) (by omega) | exact q_indexAddr rfl Tryz.underlying27 ti29 rfl rfl (Sl.shape (n := 1) hwv rfl) (by omega))) ?_
      refine s_g rfl rfl rfl rfl rfl rfl (q_fieldAddr rfl Tryz.underlying29 rfl rfl ti25 rfl rfl) ?_
      refine s_g rfl rfl rfl rfl rfl rfl ((by first | exact q_load_row rfl Tryz.underlying25 rfl rfl (by rfl) | exact q_load rfl Tryz.underlying25 rfl rfl (hkv.rd (i := 1) (j := 0) rfl rfl) | exact q_load rfl Tryz.underlying25 rfl rfl (hkv.rd (i := 1) (j := 6) rfl rfl) | exact q_load rfl Tryz.underlying25 rfl rfl (hkv.rd (i := 0) (j := 4) rfl rfl) | exact q_load rfl Tryz.underlying25 rfl rfl (hwv.rd (i := 0) (j := 0) rfl rfl))) ?_
      refine s_g rfl rfl rfl rfl rfl rfl ((by first | exact q_indexAddrVN rfl Tryz.underlying25 ti9 rfl rfl (by omega) | exact q_indexAddrN rfl Tryz.underlying25 ti9 rfl rfl (Sl.shape (n := 2) hkv rfl) (by omega) | exact q_indexAddrN rfl Tryz.underlying25 ti9 rfl rfl (Sl.shape (n := 1) hwv rfl) (by omega) | exact q_indexAddrV rfl Tryz.underlying25 ti9 rfl rfl (by omega) | exact q_indexAddr rfl Tryz.underlying25 ti9 rfl rfl (Sl.shape (n := 2) hkv rfl) (by omega) | exact q_indexAddr rfl Tryz.underlying25 ti9 rfl rfl (Sl.shape (n := 1) hwv rfl) (by omega))) ?_
      refine s_g rfl rfl rfl rfl rfl rfl ((by first | exact q_load_row rfl Tryz.underlying9 rfl rfl (by rfl) | exact q_load rfl Tryz.underlying9 rfl rfl (hkv.rd (i := 1) (j := 0) rfl rfl) | exact q_load rfl Tryz.underlying9 rfl rfl (hkv.rd (i := 1) (j := 6) rfl rfl) | exact q_load rfl Tryz.underlying9 rfl rfl (hkv.rd (i := 0) (j := 4) rfl rfl) | exact q_load rfl Tryz.underlying9 rfl rfl (hwv.rd (i := 0) (j := 0) rfl rfl))) ?_
      refine s_g rfl rfl rfl rfl rfl rfl (q_eql_str rfl rfl rfl) ?_
      exact s_val rfl
    ) (wanted_n rfl) rfl rfl rfl ?_
  refine s_q rfl rfl rfl (q_move rfl rfl) ?_
  refine s_q rfl rfl rfl (q_pick_b rfl rfl) ?_
  refine s_q rfl rfl rfl (q_assign rfl rfl) ?_
  refine s_done ?_
  refine n_then ?_
  refine t_ret ?_
  refine n_ret1 rfl rfl (fun w' hw => ?_)
  -- leaf 0
  refine ⟨?_, (hw.less hJ7).below⟩
  refine congrArg (fun b => Ending.returned (Value.bool b)) (?_ : _ = true)
  rw [hk1, hk2]; rfl
end Go.Tri

/-
  Trees as texts.
-/
namespace Go.Tri
open Go.Proofs Go.RowKit
theorem NdsAt.nth {I : Look} : ∀ {ks : List Nd} {cs : List NC}, NdsAt I ks cs → ∀ {i : Nat}, i < ks.length → NdAt I (nth ks i nd0) (nth cs i nc0)
  | [], _, _, i, hi => absurd hi (Nat.not_lt_zero i)
  | k :: ks, [], h, _, _ => by unfold NdsAt at h; exact h.elim
  | k :: ks, c :: cs, h, i, hi => by
    unfold NdsAt at h
    cases i with
    | zero => exact h.1
    | succ i => exact NdsAt.nth h.2 (by simpa using hi)
theorem rd_get {rs : List Rdr} {i : Nat} (h : i < rs.length) : (rs.map rdCell)[i]? = some (rdCell (nth rs i rdr0)) := by
  rw [List.getElem?_map, List.getElem?_eq_getElem h, nth_eq h]; rfl
theorem nc_get {cs : List NC} {i : Nat} (h : i < cs.length) : (cs.map ncC)[i]? = some (ncC (nth cs i nc0)) := by
  rw [List.getElem?_map, List.getElem?_eq_getElem h, nth_eq h]; rfl
theorem nth_mem_rd {rs : List Rdr} {i : Nat} (h : i < rs.length) : nth rs i rdr0 ∈ rs := by
  rw [nth_eq h]; exact List.getElem_mem h
set_option maxRecDepth 10000 in
theorem rdecimal_pure (n : Int) (w : World) (h : -9223372036854775808 ≤ n ∧ n ≤ 9223372036854775807) : Pure Tryz.prog 20 [.int .i64 n] w (str (Lib.itoa n)) := by
  have hdl := dd_len 18 n.natAbs (by omega)
  refine enter Tryz.func20 rfl Tryz.ntmps20 rfl (St.start w (look w) (Le.refl _)) ?_
  refine t_seq ?_
  refine t_region ?_
  refine l_q rfl rfl rfl (q_assign rfl rfl) ?_
  refine l_nil ?_
  refine n_then ?_
  refine t_seq ?_
  refine t_region ?_
  refine l_q rfl rfl rfl (q_move rfl rfl) ?_
  refine l_q rfl rfl rfl (q_assign rfl rfl) ?_
  refine l_nil ?_
  refine n_then ?_
  refine t_cutE (ι := Nat) (fun zz => zz = n.natAbs) (fun zz => [(3, .int .i64 (-(zz : Int)))]) [(0, _), (2, _)] (fun zz => look w) (fun zz => []) (sub_cons rfl (sub_cons rfl sub_nil)) ?_ ?_
  · skip
    refine t_seq ?_
    refine t_region ?_
    refine l_q rfl rfl rfl (q_move rfl rfl) ?_
    refine l_q rfl rfl rfl (q_gtr rfl rfl rfl) ?_
    refine l_nil ?_
    refine n_then ?_
    refine t_cond rfl (fun hc0 => ?_) (fun hc0 => ?_)
    · skip
      try simp at hc0
      refine t_region ?_
      refine l_q rfl rfl rfl (q_move rfl rfl) ?_
      refine l_q rfl rfl rfl (q_neg64 rfl rfl (by omega)) ?_
      refine l_q rfl rfl rfl (q_assign rfl rfl) ?_
      refine l_nil ?_
      refine n_cut (n.natAbs) ?_ (sub_cons' rfl (congrArg (Value.int IntKind.i64) (by omega)) (sub_nil)) (sub_cons rfl (sub_cons rfl sub_nil)) (fun _ h => by try dsimp only; exact subC_st h)
      · try dsimp only
        all_goals rfl
    · skip
      try simp at hc0
      refine t_skip ?_
      refine n_cut (n.natAbs) ?_ (sub_cons' rfl (congrArg (Value.int IntKind.i64) (by omega)) (sub_nil)) (sub_cons rfl (sub_cons rfl sub_nil)) (fun _ h => by try dsimp only; exact subC_st h)
      · try dsimp only
        all_goals rfl
  rintro u hu0
  try dsimp only at *
  refine t_seq ?_
  refine t_region ?_
  refine l_q rfl rfl rfl (q_assign rfl rfl) ?_
  refine l_nil ?_
  refine n_then ?_
  refine t_seq ?_
  refine t_block ?_
  refine t_loopE (ι := Nat × List UInt8 × Value × Look) (fun zz => Le (look w) zz.2.2.2 ∧ Lib.decDigits n.natAbs = Lib.decDigits zz.1 ++ zz.2.1 ∧ zz.1 ≤ 9223372036854775808) (fun zz => zz.1) (fun zz => [(3, .int .i64 (-(zz.1 : Int))), (4, zz.2.2.1)]) [(0, _), (2, _)] (fun zz => zz.2.2.2) (fun zz => [tvec 5 1 byC zz.2.2.1 zz.2.1]) (u, [], .slice none 0 0, look w) ?_ (sub_cons rfl (sub_cons rfl sub_nil)) (sub_cons rfl (sub_cons rfl sub_nil)) (fun _ h => st_nilT 5 1 byC h) ?_
  · try dsimp only
    subst hu0; exact ⟨Le.refl _, by simp, by omega⟩
  rintro ⟨u, l, v, J⟩ ⟨hJ, hdd, hub⟩
  try dsimp only at *
  have hll : l.length ≤ 19 := by have := congrArg List.length hdd; rw [List.length_append] at this; omega
  refine t_block ?_
  refine t_seq ?_
  refine t_freezeT (f := byC) (l := l) v (fun _ => rfl) (fun J1 hJ1 hv => ?_)
  refine t_region ?_
  refine l_q rfl rfl rfl (q_move rfl rfl) ?_
  refine l_q rfl rfl rfl (q_rem rfl rfl rfl (by decide)) ?_
  refine l_q rfl rfl rfl (q_sub64 rfl rfl rfl (by rw [tmod_neg]; omega)) ?_
  refine l_q rfl rfl rfl (q_conv_u8 (48 + u % 10) rfl Tryz.underlying2 Tryz.underlying5 rfl (by rw [tmod_neg]; omega)) ?_
  refine l_e rfl rfl rfl (e_buildSlice1 rfl Tryz.underlying67 ti5 rfl rfl rfl (by first | exact One.cells (by assumption) | rfl) rfl) ?_
  rintro _ _ _ ⟨b14, rfl, rfl, rfl⟩
  refine l_heap (H' := tvec 5 1 byC (.slice (some ⟨b14, 0, none⟩) 1 1) [UInt8.ofNat (48 + u % 10)] :: _) ?_ (fun _ h => st_rowVec h rfl (by decide))
  refine l_q rfl rfl rfl (q_move rfl rfl) ?_
  refine l_e rfl rfl rfl (e_appendSl (f := byC) (l := [UInt8.ofNat (48 + u % 10)]) rfl Tryz.underlying67 ti5 rfl rfl rfl rfl (hv) rfl (fun _ => rfl) byC_ones (by simp only [maxLen, List.length_cons, List.length_nil]; omega) (by simp only [List.length_cons, List.length_nil]; omega)) ?_
  rintro v16 _ _ ⟨rfl, rfl⟩
  refine l_q rfl rfl rfl (q_assign rfl rfl) ?_
  refine l_nil ?_
  refine n_then ?_
  refine t_seq ?_
  refine t_region ?_
  refine l_q rfl rfl rfl (q_move rfl rfl) ?_
  refine l_q rfl rfl rfl (q_quo64 rfl rfl rfl (by decide) (by rw [tdiv_neg]; omega)) ?_
  refine l_q rfl rfl rfl (q_assign rfl rfl) ?_
  refine l_nil ?_
  refine n_then ?_
  refine t_seq ?_
  refine t_region ?_
  refine l_q rfl rfl rfl (q_move rfl rfl) ?_
  refine l_q rfl rfl rfl (q_eql rfl rfl rfl) ?_
  refine l_nil ?_
  refine n_then ?_
  refine t_cond rfl (fun hc1 => ?_) (fun hc1 => ?_)
  · skip
    have hu10 : u < 10 := by have := of_decide_eq_true hc1; rw [tdiv_neg] at this; omega
    have hdl2 := dd_last hdd hu10
    refine t_exit ?_
    refine n_exit_other rfl ?_
    refine n_exit_then ?_
    refine n_exit_block ?_
    refine n_then ?_
    refine t_seq ?_
    refine t_seq ?_
    refine t_region ?_
    refine l_q rfl rfl rfl (q_move rfl rfl) ?_
    refine l_q rfl rfl rfl (q_lss rfl rfl rfl) ?_
    refine l_nil ?_
    refine n_then ?_
    refine t_cond rfl (fun hc2 => ?_) (fun hc2 => ?_)
    · skip
      try simp at hc2
      refine t_seq ?_
      refine t_region ?_
      refine l_q rfl rfl rfl (q_move rfl rfl) ?_
      refine l_q rfl rfl rfl (q_bytes_str rfl Tryz.underlying67 Tryz.underlying9 Tryz.underlying5 rfl) ?_
      refine l_q rfl rfl rfl (q_cat rfl rfl rfl (by first | omega | (simp only [List.length_append, List.length_cons, List.length_nil, List.length_take, List.length_drop]; omega))) ?_
      refine l_q rfl rfl rfl (q_assign rfl rfl) ?_
      refine l_nil ?_
      refine n_then ?_
      refine t_ret ?_
      refine n_ret_then ?_
      refine n_ret1 rfl rfl (fun w' hw => ?_)
      -- leaf 0
      refine ⟨?_, (hw.less (hJ.trans hJ1)).below⟩
      rw [itoa_eq, if_pos (by omega), hdl2]; rfl
    · skip
      try simp at hc2
      refine t_skip ?_
      refine n_then ?_
      refine t_seq ?_
      refine t_region ?_
      refine l_q rfl rfl rfl (q_move rfl rfl) ?_
      refine l_q rfl rfl rfl (q_bytes_str rfl Tryz.underlying67 Tryz.underlying9 Tryz.underlying5 rfl) ?_
      refine l_q rfl rfl rfl (q_assign rfl rfl) ?_
      refine l_nil ?_
      refine n_then ?_
      refine t_ret ?_
      refine n_ret1 rfl rfl (fun w' hw => ?_)
      -- leaf 1
      refine ⟨?_, (hw.less (hJ.trans hJ1)).below⟩
      rw [itoa_eq, if_neg (by omega), hdl2]; rfl
  · skip
    have hu10 : ¬ u < 10 := by have := of_decide_eq_false hc1; rw [tdiv_neg] at this; omega
    refine t_skip ?_
    refine n_block ?_
    refine n_roundE ((u / 10, [UInt8.ofNat (48 + u % 10)] ++ l, v16, J1)) ?_ ?_ (sub_cons' rfl (congrArg (Value.int IntKind.i64) (tdiv_neg u)) (sub_cons rfl sub_nil)) (sub_cons rfl (sub_cons rfl sub_nil)) (fun _ h => by try dsimp only; exact subC_st h)
    · try dsimp only
      exact ⟨hJ.trans hJ1, dd_step hdd hu10, by omega⟩
    · try dsimp only
      show u / 10 < u; omega
set_option maxRecDepth 10000 in
theorem text_pure (s : List UInt8) (w : World) (h : (textC s).length ≤ 9223372036854775807) : Pure Tryz.prog 21 [str s] w (str (textC s)) := by
  have hx : (textC s).length = (Lib.itoa (s.length : Int)).length + 1 + s.length := by unfold textC; simp only [List.length_append, List.length_cons, List.length_nil]
  refine enter Tryz.func21 rfl Tryz.ntmps21 rfl (St.start w (look w) (Le.refl _)) ?_
  refine t_seq ?_
  refine t_region ?_
  refine l_q rfl rfl rfl (q_assign rfl rfl) ?_
  refine l_nil ?_
  refine n_then ?_
  refine t_seq ?_
  refine t_region ?_
  refine l_q rfl rfl rfl (q_move rfl rfl) ?_
  refine l_q rfl rfl rfl (q_len_str rfl Tryz.underlying9 rfl) ?_
  refine l_q rfl rfl rfl (quiet_call rfl rfl rfl Tryz.func20 (by kernel_rfl) rfl ((fun w _ => rdecimal_pure (s.length : Int) w (by omega)))) ?_
  refine l_q rfl rfl rfl (q_cat rfl rfl rfl (by first | omega | (simp only [List.length_append, List.length_cons, List.length_nil, List.length_take, List.length_drop]; omega))) ?_
  refine l_q rfl rfl rfl (q_move rfl rfl) ?_
  refine l_q rfl rfl rfl (q_cat rfl rfl rfl (by first | omega | (simp only [List.length_append, List.length_cons, List.length_nil, List.length_take, List.length_drop]; omega))) ?_
  refine l_q rfl rfl rfl (q_assign rfl rfl) ?_
  refine l_nil ?_
  refine n_then ?_
  refine t_ret ?_
  refine n_ret1 rfl rfl (fun w' hw => ?_)
  -- leaf 0
  exact ⟨rfl, hw.below⟩
set_option maxRecDepth 10000 in
set_option maxHeartbeats 1000000 in
theorem code_walk (k : Nat) (nt isin : Bool) (nm : List UInt8) (ws : List (List UInt8)) (rs : List Rdr) (ks : List Nd) (wv rv kv : Value) (cs : List NC) (w : World) (hlen : (codeP (.mk k nt isin nm ws rs ks)).length ≤ 9223372036854775807) (hk : k ≤ 1000) (hfd : ∀ r ∈ rs, -9223372036854775808 ≤ r.fd ∧ r.fd ≤ 10) (h5 : Sl (look w) 1 wv (ws.map stC)) (h6 : Sl (look w) 5 rv (rs.map rdCell)) (h7 : Sl (look w) 7 kv (cs.map ncC)) (hcl : cs.length = ks.length) (hrec : ∀ i, i < ks.length → ∀ w', Le (look w) (look w') → Pure Tryz.prog 11 [.agg (ncC (nth cs i nc0)).toArray] w' (str (codeP (nth ks i nd0)))) : Pure Tryz.prog 11 [.agg (ncC ⟨k, nt, isin, nm, wv, rv, kv⟩).toArray] w (str (codeP (.mk k nt isin nm ws rs ks))) := by
  rw [codeP] at hlen ⊢
  obtain ⟨X1, hX1⟩ : ∃ z, z = [40] ++ Lib.itoa (k : Int) ++ (if nt then [33] else []) := ⟨_, rfl⟩
  obtain ⟨X2, hX2⟩ : ∃ z, z = X1 ++ (if isin then [105, 110] else []) := ⟨_, rfl⟩
  obtain ⟨X3, hX3⟩ : ∃ z, z = X2 ++ [44] ++ textC nm := ⟨_, rfl⟩
  rw [← hX1, ← hX2, ← hX3] at hlen ⊢
  have hl1 := congrArg List.length hX1
  have hl2 := congrArg List.length hX2
  have hl3 := congrArg List.length hX3
  have hwl := wordsC_len ws
  have hrl := rdrsC_len rs
  have hkl := codesP_len ks
  simp only [List.length_append, List.length_cons, List.length_nil] at hlen hl1 hl2 hl3
  refine enter Tryz.func11 rfl Tryz.ntmps11 rfl (St.start w (look w) (Le.refl _)) ?_
  refine t_seq ?_
  refine t_region ?_
  refine l_e rfl rfl rfl (e_box rfl rfl rfl) ?_
  rintro _ _ _ ⟨b1, rfl, rfl, rfl⟩
  refine l_heap (H' := row b1 29 (ncC ⟨k, nt, isin, nm, wv, rv, kv⟩) :: _) ?_ (fun _ h => h)
  refine l_q rfl rfl rfl (q_assign rfl rfl) ?_
  refine l_nil ?_
  refine n_then ?_
  refine t_seq ?_
  refine t_region ?_
  refine l_q rfl rfl rfl (q_fieldAddr rfl Tryz.underlying29 rfl rfl ti3 rfl rfl) ?_
  refine l_q rfl rfl rfl ((by first | exact q_load_row rfl Tryz.underlying3 rfl rfl (by rfl) | exact q_load rfl Tryz.underlying3 rfl rfl (rd_st (i := i) h5 (by omega)))) ?_
  refine l_q rfl rfl rfl (quiet_call rfl rfl rfl Tryz.func20 (by kernel_rfl) rfl ((fun w _ => rdecimal_pure (k : Int) w (by omega)))) ?_
  refine l_q rfl rfl rfl (q_cat rfl rfl rfl (by first | omega | (simp only [List.length_append, List.length_cons, List.length_nil, List.length_take, List.length_drop]; omega))) ?_
  refine l_q rfl rfl rfl (q_assign rfl rfl) ?_
  refine l_nil ?_
  refine n_then ?_
  refine t_cutE (ι := Unit) (fun _ => True) (fun _ => [(3, str X1)]) [(0, _), (1, _), (2, _)] (fun _ => look w) (fun _ => [row b1 29 (ncC ⟨k, nt, isin, nm, wv, rv, kv⟩)]) (sub_cons rfl (sub_cons rfl (sub_cons rfl sub_nil))) ?_ ?_
  · skip
    refine t_seq ?_
    refine t_region ?_
    refine l_q rfl rfl rfl (q_fieldAddr rfl Tryz.underlying29 rfl rfl ti4 rfl rfl) ?_
    refine l_q rfl rfl rfl ((by first | exact q_load_row rfl Tryz.underlying4 rfl rfl (by rfl) | exact q_load rfl Tryz.underlying4 rfl rfl (rd_st (i := i) h5 (by omega)))) ?_
    refine l_nil ?_
    refine n_then ?_
    refine t_cond rfl (fun hc0 => ?_) (fun hc0 => ?_)
    · skip
      refine t_region ?_
      refine l_q rfl rfl rfl (q_move rfl rfl) ?_
      refine l_q rfl rfl rfl (q_cat rfl rfl rfl (by first | omega | (simp only [List.length_append, List.length_cons, List.length_nil, List.length_take, List.length_drop]; omega))) ?_
      refine l_q rfl rfl rfl (q_assign rfl rfl) ?_
      refine l_nil ?_
      refine n_cut (()) ?_ (sub_cons' rfl (by rw [hX1, if_pos (show nt = true from hc0)]) (sub_nil)) (sub_cons rfl (sub_cons rfl (sub_cons rfl sub_nil))) (fun _ h => by try dsimp only; exact subC_st h)
      · try dsimp only
        all_goals trivial
    · skip
      refine t_skip ?_
      refine n_cut (()) ?_ (sub_cons' rfl (by rw [hX1, if_neg (by rw [show nt = false from hc0]; simp), List.append_nil]) (sub_nil)) (sub_cons rfl (sub_cons rfl (sub_cons rfl sub_nil))) (fun _ h => by try dsimp only; exact subC_st h)
      · try dsimp only
        all_goals trivial
  rintro _ _
  refine t_cutE (ι := Unit) (fun _ => True) (fun _ => [(3, str X2)]) [(0, _), (1, _), (2, _)] (fun _ => look w) (fun _ => [row b1 29 (ncC ⟨k, nt, isin, nm, wv, rv, kv⟩)]) (sub_cons rfl (sub_cons rfl (sub_cons rfl sub_nil))) ?_ ?_
  · skip
    refine t_seq ?_
    refine t_region ?_
    refine l_q rfl rfl rfl (q_fieldAddr rfl Tryz.underlying29 rfl rfl ti4 rfl rfl) ?_
    refine l_q rfl rfl rfl ((by first | exact q_load_row rfl Tryz.underlying4 rfl rfl (by rfl) | exact q_load rfl Tryz.underlying4 rfl rfl (rd_st (i := i) h5 (by omega)))) ?_
    refine l_nil ?_
    refine n_then ?_
    refine t_cond rfl (fun hc1 => ?_) (fun hc1 => ?_)
    · skip
      refine t_region ?_
      refine l_q rfl rfl rfl (q_move rfl rfl) ?_
      refine l_q rfl rfl rfl (q_cat rfl rfl rfl (by first | omega | (simp only [List.length_append, List.length_cons, List.length_nil, List.length_take, List.length_drop]; omega))) ?_
      refine l_q rfl rfl rfl (q_assign rfl rfl) ?_
      refine l_nil ?_
      refine n_cut (()) ?_ (sub_cons' rfl (by rw [hX2, if_pos (show isin = true from hc1)]) (sub_nil)) (sub_cons rfl (sub_cons rfl (sub_cons rfl sub_nil))) (fun _ h => by try dsimp only; exact subC_st h)
      · try dsimp only
        all_goals trivial
    · skip
      refine t_skip ?_
      refine n_cut (()) ?_ (sub_cons' rfl (by rw [hX2, if_neg (by rw [show isin = false from hc1]; simp), List.append_nil]) (sub_nil)) (sub_cons rfl (sub_cons rfl (sub_cons rfl sub_nil))) (fun _ h => by try dsimp only; exact subC_st h)
      · try dsimp only
        all_goals trivial
  rintro _ _
  refine t_seq ?_
  refine t_region ?_
  refine l_q rfl rfl rfl (q_move rfl rfl) ?_
  refine l_q rfl rfl rfl (q_cat rfl rfl rfl (by first | omega | (simp only [List.length_append, List.length_cons, List.length_nil, List.length_take, List.length_drop]; omega))) ?_
  refine l_q rfl rfl rfl (q_fieldAddr rfl Tryz.underlying29 rfl rfl ti9 rfl rfl) ?_
  refine l_q rfl rfl rfl ((by first | exact q_load_row rfl Tryz.underlying9 rfl rfl (by rfl) | exact q_load rfl Tryz.underlying9 rfl rfl (rd_st (i := i) h5 (by omega)))) ?_
  refine l_q rfl rfl rfl (quiet_call rfl rfl rfl Tryz.func21 (by kernel_rfl) rfl ((fun w _ => text_pure nm w (by omega)))) ?_
  refine l_q rfl rfl rfl (q_cat rfl rfl rfl (by first | omega | (simp only [List.length_append, List.length_cons, List.length_nil, List.length_take, List.length_drop]; omega))) ?_
  rw [← hX3]
  refine l_q rfl rfl rfl (q_assign rfl rfl) ?_
  refine l_nil ?_
  refine n_then ?_
  refine t_seq ?_
  refine t_seq ?_
  refine t_region ?_
  refine l_q rfl rfl rfl (q_assign rfl rfl) ?_
  refine l_nil ?_
  refine n_then ?_
  refine t_block ?_
  refine t_loopE (ι := Nat × List UInt8) (fun zz => zz.1 ≤ ws.length ∧ zz.2 = X3 ++ wordsC (ws.take zz.1)) (fun zz => ws.length - zz.1) (fun zz => [(3, str zz.2), (4, .int .i64 (zz.1 : Int))]) [(0, _), (1, _), (2, _)] (fun zz => look w) (fun zz => [row b1 29 (ncC ⟨k, nt, isin, nm, wv, rv, kv⟩)]) (0, X3) ?_ (sub_cons rfl (sub_cons rfl sub_nil)) (sub_cons rfl (sub_cons rfl (sub_cons rfl sub_nil))) (fun _ h => subC_st h) ?_
  · try dsimp only
    exact ⟨Nat.zero_le _, by simp [wordsC]⟩
  rintro ⟨i, x⟩ ⟨hi, hx⟩
  try dsimp only at *
  have hxl := congrArg List.length hx
  rw [List.length_append] at hxl
  refine t_seq ?_
  refine t_seq ?_
  refine t_region ?_
  refine l_q rfl rfl rfl (q_move rfl rfl) ?_
  refine l_q rfl rfl rfl (q_fieldAddr rfl Tryz.underlying29 rfl rfl ti25 rfl rfl) ?_
  refine l_q rfl rfl rfl ((by first | exact q_load_row rfl Tryz.underlying25 rfl rfl (by rfl) | exact q_load rfl Tryz.underlying25 rfl rfl (rd_st (i := i) h5 (by omega)))) ?_
  refine l_q rfl rfl rfl ((by first | exact q_lenV rfl Tryz.underlying25 rfl | exact q_len rfl Tryz.underlying25 rfl (Sl.lenOf h5 (List.length_map _)) | exact q_len rfl Tryz.underlying25 rfl (Sl.lenOf h6 (List.length_map _)) | exact q_len rfl Tryz.underlying25 rfl (Sl.lenOf h7 (List.length_map _)))) ?_
  refine l_q rfl rfl rfl (q_lss rfl rfl rfl) ?_
  refine l_nil ?_
  refine n_then ?_
  refine t_cond rfl (fun hc2 => ?_) (fun hc2 => ?_)
  · skip
    try simp at hc2
    have hsn := wordsC_snoc (ws := ws) (i := i) (by omega)
    have hsl := congrArg List.length hsn
    have hft : (wordsC (ws.take (i + 1))).length ≤ (wordsC ws).length := flat_take _ ws (i + 1)
    simp only [List.length_append, List.length_cons, List.length_nil] at hsl
    refine t_skip ?_
    refine n_then ?_
    refine t_seq ?_
    refine t_block ?_
    refine t_region ?_
    refine l_q rfl rfl rfl (q_move rfl rfl) ?_
    refine l_q rfl rfl rfl (q_cat rfl rfl rfl (by first | omega | (simp only [List.length_append, List.length_cons, List.length_nil, List.length_take, List.length_drop]; omega))) ?_
    refine l_q rfl rfl rfl (q_fieldAddr rfl Tryz.underlying29 rfl rfl ti25 rfl rfl) ?_
    refine l_q rfl rfl rfl ((by first | exact q_load_row rfl Tryz.underlying25 rfl rfl (by rfl) | exact q_load rfl Tryz.underlying25 rfl rfl (rd_st (i := i) h5 (by omega)))) ?_
    refine l_q rfl rfl rfl (q_move rfl rfl) ?_
    refine l_q rfl rfl rfl ((by first | exact q_indexAddrVN rfl Tryz.underlying25 ti9 rfl rfl (by omega) | exact q_indexAddrN rfl Tryz.underlying25 ti9 rfl rfl (Sl.shape h5 (List.length_map _)) (by omega) | exact q_indexAddrN rfl Tryz.underlying25 ti9 rfl rfl (Sl.shape h6 (List.length_map _)) (by omega) | exact q_indexAddrN rfl Tryz.underlying25 ti9 rfl rfl (Sl.shape h7 (List.length_map _)) (by omega) | exact q_indexAddrV rfl Tryz.underlying25 ti9 rfl rfl (by omega) | exact q_indexAddr rfl Tryz.underlying25 ti9 rfl rfl (Sl.shape h5 (List.length_map _)) (by omega) | exact q_indexAddr rfl Tryz.underlying25 ti9 rfl rfl (Sl.shape h6 (List.length_map _)) (by omega) | exact q_indexAddr rfl Tryz.underlying25 ti9 rfl rfl (Sl.shape h7 (List.length_map _)) (by omega))) ?_
    refine l_q rfl rfl rfl ((by first | exact q_load_row rfl Tryz.underlying9 rfl rfl (by rfl) | exact q_load rfl Tryz.underlying9 rfl rfl (rd_st (i := i) h5 (by omega)))) ?_
    refine l_q rfl rfl rfl (quiet_call rfl rfl rfl Tryz.func21 (by kernel_rfl) rfl ((fun w _ => text_pure (nth ws i []) w (by omega)))) ?_
    refine l_q rfl rfl rfl (q_cat rfl rfl rfl (by first | omega | (simp only [List.length_append, List.length_cons, List.length_nil, List.length_take, List.length_drop]; omega))) ?_
    refine l_q rfl rfl rfl (q_assign rfl rfl) ?_
    refine l_nil ?_
    refine n_block ?_
    refine n_then ?_
    refine t_region ?_
    refine l_q rfl rfl rfl (q_move rfl rfl) ?_
    refine l_q rfl rfl rfl (q_add64 rfl rfl rfl (by omega)) ?_
    refine l_q rfl rfl rfl (q_assign rfl rfl) ?_
    refine l_nil ?_
    refine n_roundE ((i + 1, x ++ [119] ++ textC (nth ws i []))) ?_ ?_ (sub_cons rfl (sub_cons rfl sub_nil)) (sub_cons rfl (sub_cons rfl (sub_cons rfl sub_nil))) (fun _ h => by try dsimp only; exact subC_st h)
    · try dsimp only
      exact ⟨by omega, by rw [hsn, hx]; simp only [List.append_assoc]⟩
    · try dsimp only
      show ws.length - (i + 1) < ws.length - i
      omega
  · skip
    try simp at hc2
    rw [List.take_of_length_le (by omega)] at hx hxl
    refine t_exit ?_
    refine n_exit_then ?_
    refine n_exit_then ?_
    refine n_exit_block ?_
    refine n_then ?_
    refine t_seq ?_
    refine t_seq ?_
    refine t_region ?_
    refine l_q rfl rfl rfl (q_assign rfl rfl) ?_
    refine l_nil ?_
    refine n_then ?_
    refine t_block ?_
    refine t_loopE (ι := Nat × List UInt8) (fun zz => zz.1 ≤ rs.length ∧ zz.2 = X3 ++ wordsC ws ++ rdrsC (rs.take zz.1)) (fun zz => rs.length - zz.1) (fun zz => [(3, str zz.2), (5, .int .i64 (zz.1 : Int))]) [(4, _), (0, _), (1, _), (2, _), (30, _)] (fun zz => look w) (fun zz => [row b1 29 (ncC ⟨k, nt, isin, nm, wv, rv, kv⟩)]) (0, x) ?_ (sub_cons rfl (sub_cons rfl sub_nil)) (sub_cons rfl (sub_cons rfl (sub_cons rfl (sub_cons rfl (sub_cons rfl sub_nil))))) (fun _ h => subC_st h) ?_
    · try dsimp only
      exact ⟨Nat.zero_le _, by rw [hx]; simp [rdrsC]⟩
    rintro ⟨i, y⟩ ⟨hi, hy⟩
    try dsimp only at *
    have hyl := congrArg List.length hy
    simp only [List.length_append] at hyl
    refine t_seq ?_
    refine t_seq ?_
    refine t_region ?_
    refine l_q rfl rfl rfl (q_move rfl rfl) ?_
    refine l_q rfl rfl rfl (q_fieldAddr rfl Tryz.underlying29 rfl rfl ti26 rfl rfl) ?_
    refine l_q rfl rfl rfl ((by first | exact q_load_row rfl Tryz.underlying26 rfl rfl (by rfl) | exact q_load rfl Tryz.underlying26 rfl rfl (rd_st (i := i) h5 (by omega)))) ?_
    refine l_q rfl rfl rfl ((by first | exact q_lenV rfl Tryz.underlying26 rfl | exact q_len rfl Tryz.underlying26 rfl (Sl.lenOf h5 (List.length_map _)) | exact q_len rfl Tryz.underlying26 rfl (Sl.lenOf h6 (List.length_map _)) | exact q_len rfl Tryz.underlying26 rfl (Sl.lenOf h7 (List.length_map _)))) ?_
    refine l_q rfl rfl rfl (q_lss rfl rfl rfl) ?_
    refine l_nil ?_
    refine n_then ?_
    refine t_cond rfl (fun hc3 => ?_) (fun hc3 => ?_)
    · skip
      try simp at hc3
      have hsn := rdrsC_snoc (rs := rs) (i := i) (by omega)
      have hsl := congrArg List.length hsn
      have hft : (rdrsC (rs.take (i + 1))).length ≤ (rdrsC rs).length := flat_take _ rs (i + 1)
      have hfi := hfd _ (nth_mem_rd (rs := rs) (i := i) (by omega))
      unfold rdrC at hsl
      simp only [List.length_append, List.length_cons, List.length_nil] at hsl
      refine t_skip ?_
      refine n_then ?_
      refine t_seq ?_
      refine t_block ?_
      refine t_seq ?_
      refine t_region ?_
      refine l_q rfl rfl rfl (q_fieldAddr rfl Tryz.underlying29 rfl rfl ti26 rfl rfl) ?_
      refine l_q rfl rfl rfl ((by first | exact q_load_row rfl Tryz.underlying26 rfl rfl (by rfl) | exact q_load rfl Tryz.underlying26 rfl rfl (rd_st (i := i) h5 (by omega)))) ?_
      refine l_q rfl rfl rfl (q_move rfl rfl) ?_
      refine l_q rfl rfl rfl ((by first | exact q_indexAddrVN rfl Tryz.underlying26 ti59 rfl rfl (by omega) | exact q_indexAddrN rfl Tryz.underlying26 ti59 rfl rfl (Sl.shape h5 (List.length_map _)) (by omega) | exact q_indexAddrN rfl Tryz.underlying26 ti59 rfl rfl (Sl.shape h6 (List.length_map _)) (by omega) | exact q_indexAddrN rfl Tryz.underlying26 ti59 rfl rfl (Sl.shape h7 (List.length_map _)) (by omega) | exact q_indexAddrV rfl Tryz.underlying26 ti59 rfl rfl (by omega) | exact q_indexAddr rfl Tryz.underlying26 ti59 rfl rfl (Sl.shape h5 (List.length_map _)) (by omega) | exact q_indexAddr rfl Tryz.underlying26 ti59 rfl rfl (Sl.shape h6 (List.length_map _)) (by omega) | exact q_indexAddr rfl Tryz.underlying26 ti59 rfl rfl (Sl.shape h7 (List.length_map _)) (by omega))) ?_
      refine l_q rfl rfl rfl ((by first | exact q_load_rowA rfl Tryz.underlying59 ti59 rfl rfl rfl | exact q_load_agg rfl Tryz.underlying59 ti59 rfl rfl (h6.rds (rd_get (i := i) (by omega))) | exact q_load_agg rfl Tryz.underlying59 ti59 rfl rfl (h7.rds (nc_get (i := i) (by omega))))) ?_
      refine l_e rfl rfl rfl (e_alloc rfl ti59 rfl) ?_
      rintro _ _ _ ⟨b6, rfl, rfl, rfl⟩
      refine l_e0 rfl rfl ((by first | exact e_store_all rfl ti59 rfl rfl rfl (by first | exact chC_ones _ | exact pcC_ones _ | exact rdCell_ones _ | simp [Value.oneCell', str, u8]) rfl | exact e_store_agg rfl ti59 rfl rfl rfl (by first | exact chC_ones _ | exact pcC_ones _ | exact rdCell_ones _ | simp [Value.oneCell', str, u8]) rfl)) ?_
      rintro _ _ _ ⟨rfl, rfl⟩
      refine l_heap (H' := row b6 59 (rdCell (nth rs i rdr0)) :: _) ?_ (fun _ h => h)
      refine l_nil ?_
      refine n_then ?_
      refine t_seq ?_
      refine t_qdraw mo (by kernel_rfl) (fun _ _ _ _ _ h => h) ?_
      refine s_q rfl rfl rfl (q_move rfl rfl) ?_
      refine s_q rfl rfl rfl (q_cat rfl rfl rfl (by first | omega | (simp only [List.length_append, List.length_cons, List.length_nil, List.length_take, List.length_drop]; omega))) ?_
      refine s_q rfl rfl rfl (q_fieldAddr rfl Tryz.underlying59 rfl rfl ti3 rfl rfl) ?_
      refine s_q rfl rfl rfl ((by first | exact q_load_row rfl Tryz.underlying3 rfl rfl (by rfl) | exact q_load rfl Tryz.underlying3 rfl rfl (rd_st (i := i) h5 (by omega)))) ?_
      refine s_q rfl rfl rfl (quiet_call rfl rfl rfl Tryz.func20 (by kernel_rfl) rfl ((fun w _ => rdecimal_pure (nth rs i rdr0).fd w (by omega)))) ?_
      refine s_q rfl rfl rfl (q_cat rfl rfl rfl (by first | omega | (simp only [List.length_append, List.length_cons, List.length_nil, List.length_take, List.length_drop]; omega))) ?_
      refine s_q rfl rfl rfl (q_fieldAddr rfl Tryz.underlying59 rfl rfl ti9 rfl rfl) ?_
      refine s_q rfl rfl rfl ((by first | exact q_load_row rfl Tryz.underlying9 rfl rfl (by rfl) | exact q_load rfl Tryz.underlying9 rfl rfl (rd_st (i := i) h5 (by omega)))) ?_
      refine s_q rfl rfl rfl (quiet_call rfl rfl rfl Tryz.func21 (by kernel_rfl) rfl ((fun w _ => text_pure (nth rs i rdr0).op w (by omega)))) ?_
      refine s_q rfl rfl rfl (q_cat rfl rfl rfl (by first | omega | (simp only [List.length_append, List.length_cons, List.length_nil, List.length_take, List.length_drop]; omega))) ?_
      refine s_q rfl rfl rfl (q_fieldAddr rfl Tryz.underlying59 rfl rfl ti9 rfl rfl) ?_
      refine s_q rfl rfl rfl ((by first | exact q_load_row rfl Tryz.underlying9 rfl rfl (by rfl) | exact q_load rfl Tryz.underlying9 rfl rfl (rd_st (i := i) h5 (by omega)))) ?_
      refine s_q rfl rfl rfl (quiet_call rfl rfl rfl Tryz.func21 (by kernel_rfl) rfl ((fun w _ => text_pure (nth rs i rdr0).word w (by omega)))) ?_
      refine s_q rfl rfl rfl (q_cat rfl rfl rfl (by first | omega | (simp only [List.length_append, List.length_cons, List.length_nil, List.length_take, List.length_drop]; omega))) ?_
      refine s_q rfl rfl rfl (q_fieldAddr rfl Tryz.underlying59 rfl rfl ti9 rfl rfl) ?_
      refine s_q rfl rfl rfl ((by first | exact q_load_row rfl Tryz.underlying9 rfl rfl (by rfl) | exact q_load rfl Tryz.underlying9 rfl rfl (rd_st (i := i) h5 (by omega)))) ?_
      refine s_q rfl rfl rfl (quiet_call rfl rfl rfl Tryz.func21 (by kernel_rfl) rfl ((fun w _ => text_pure (nth rs i rdr0).doc w (by omega)))) ?_
      refine s_q rfl rfl rfl (q_cat rfl rfl rfl (by first | omega | (simp only [List.length_append, List.length_cons, List.length_nil, List.length_take, List.length_drop]; omega))) ?_
      refine s_q rfl rfl rfl (q_assign rfl rfl) ?_
      refine s_done ?_
      refine n_then ?_
      refine t_seq ?_
      refine t_region ?_
      refine l_q rfl rfl rfl (q_fieldAddr rfl Tryz.underlying59 rfl rfl ti4 rfl rfl) ?_
      refine l_q rfl rfl rfl ((by first | exact q_load_row rfl Tryz.underlying4 rfl rfl (by rfl) | exact q_load rfl Tryz.underlying4 rfl rfl (rd_st (i := i) h5 (by omega)))) ?_
      refine l_nil ?_
      refine n_then ?_
      refine t_cond rfl (fun hc4 => ?_) (fun hc4 => ?_)
      · skip
        have hr4 : (nth rs i rdr0).raw = true := hc4
        rw [if_pos hr4] at hsl
        simp only [List.length_cons, List.length_nil] at hsl
        refine t_region ?_
        refine l_q rfl rfl rfl (q_move rfl rfl) ?_
        refine l_q rfl rfl rfl (q_cat rfl rfl rfl (by first | omega | (simp only [List.length_append, List.length_cons, List.length_nil, List.length_take, List.length_drop]; omega))) ?_
        refine l_q rfl rfl rfl (q_assign rfl rfl) ?_
        refine l_nil ?_
        refine n_block ?_
        refine n_then ?_
        refine t_region ?_
        refine l_q rfl rfl rfl (q_move rfl rfl) ?_
        refine l_q rfl rfl rfl (q_add64 rfl rfl rfl (by omega)) ?_
        refine l_q rfl rfl rfl (q_assign rfl rfl) ?_
        refine l_nil ?_
        refine n_roundE ((i + 1, y ++ [114] ++ Lib.itoa (nth rs i rdr0).fd ++ textC (nth rs i rdr0).op ++ textC (nth rs i rdr0).word ++ textC (nth rs i rdr0).doc ++ [114, 97, 119])) ?_ ?_ (sub_cons rfl (sub_cons rfl sub_nil)) (sub_cons rfl (sub_cons rfl (sub_cons rfl (sub_cons rfl (sub_cons rfl sub_nil))))) (fun _ h => by try dsimp only; exact subC_st h)
        · try dsimp only
          exact ⟨by omega, by rw [hsn, hy, rdrC, if_pos hr4]; simp only [List.append_assoc]⟩
        · try dsimp only
          show rs.length - (i + 1) < rs.length - i
          omega
      · skip
        have hr4 : (nth rs i rdr0).raw = false := hc4
        refine t_skip ?_
        refine n_block ?_
        refine n_then ?_
        refine t_region ?_
        refine l_q rfl rfl rfl (q_move rfl rfl) ?_
        refine l_q rfl rfl rfl (q_add64 rfl rfl rfl (by omega)) ?_
        refine l_q rfl rfl rfl (q_assign rfl rfl) ?_
        refine l_nil ?_
        refine n_roundE ((i + 1, y ++ [114] ++ Lib.itoa (nth rs i rdr0).fd ++ textC (nth rs i rdr0).op ++ textC (nth rs i rdr0).word ++ textC (nth rs i rdr0).doc)) ?_ ?_ (sub_cons rfl (sub_cons rfl sub_nil)) (sub_cons rfl (sub_cons rfl (sub_cons rfl (sub_cons rfl (sub_cons rfl sub_nil))))) (fun _ h => by try dsimp only; exact subC_st h)
        · try dsimp only
          exact ⟨by omega, by rw [hsn, hy, rdrC, if_neg (by rw [hr4]; simp), List.append_nil]; simp only [List.append_assoc]⟩
        · try dsimp only
          show rs.length - (i + 1) < rs.length - i
          omega
    · skip
      try simp at hc3
      rw [List.take_of_length_le (by omega)] at hy hyl
      refine t_exit ?_
      refine n_exit_then ?_
      refine n_exit_then ?_
      refine n_exit_block ?_
      refine n_then ?_
      refine t_seq ?_
      refine t_seq ?_
      refine t_region ?_
      refine l_q rfl rfl rfl (q_assign rfl rfl) ?_
      refine l_nil ?_
      refine n_then ?_
      refine t_block ?_
      refine t_loopE (ι := Nat × List UInt8) (fun zz => zz.1 ≤ ks.length ∧ zz.2 = X3 ++ wordsC ws ++ rdrsC rs ++ codesP (ks.take zz.1)) (fun zz => ks.length - zz.1) (fun zz => [(3, str zz.2), (7, .int .i64 (zz.1 : Int))]) [(5, _), (4, _), (0, _), (1, _), (2, _), (30, _), (46, _)] (fun zz => look w) (fun zz => [row b1 29 (ncC ⟨k, nt, isin, nm, wv, rv, kv⟩)]) (0, y) ?_ (sub_cons rfl (sub_cons rfl sub_nil)) (sub_cons rfl (sub_cons rfl (sub_cons rfl (sub_cons rfl (sub_cons rfl (sub_cons rfl (sub_cons rfl sub_nil))))))) (fun _ h => subC_st h) ?_
      · try dsimp only
        exact ⟨Nat.zero_le _, by rw [hy]; simp [codesP]⟩
      rintro ⟨i, z⟩ ⟨hi, hz⟩
      try dsimp only at *
      have hzl := congrArg List.length hz
      simp only [List.length_append] at hzl
      refine t_seq ?_
      refine t_seq ?_
      refine t_region ?_
      refine l_q rfl rfl rfl (q_move rfl rfl) ?_
      refine l_q rfl rfl rfl (q_fieldAddr rfl Tryz.underlying29 rfl rfl ti27 rfl rfl) ?_
      refine l_q rfl rfl rfl ((by first | exact q_load_row rfl Tryz.underlying27 rfl rfl (by rfl) | exact q_load rfl Tryz.underlying27 rfl rfl (rd_st (i := i) h5 (by omega)))) ?_
      refine l_q rfl rfl rfl ((by first | exact q_lenV rfl Tryz.underlying27 rfl | exact q_len rfl Tryz.underlying27 rfl (Sl.lenOf h5 (List.length_map _)) | exact q_len rfl Tryz.underlying27 rfl (Sl.lenOf h6 (List.length_map _)) | exact q_len rfl Tryz.underlying27 rfl (Sl.lenOf h7 (List.length_map _)))) ?_
      refine l_q rfl rfl rfl (q_lss rfl rfl rfl) ?_
      refine l_nil ?_
      refine n_then ?_
      refine t_cond rfl (fun hc5 => ?_) (fun hc5 => ?_)
      · skip
        try simp at hc5
        have hsn := codesP_snoc (ks := ks) (i := i) (by omega)
        have hsl := congrArg List.length hsn
        have hft := codes_take ks (i + 1)
        simp only [List.length_append] at hsl
        refine t_skip ?_
        refine n_then ?_
        refine t_seq ?_
        refine t_block ?_
        refine t_region ?_
        refine l_q rfl rfl rfl (q_move rfl rfl) ?_
        refine l_q rfl rfl rfl (q_fieldAddr rfl Tryz.underlying29 rfl rfl ti27 rfl rfl) ?_
        refine l_q rfl rfl rfl ((by first | exact q_load_row rfl Tryz.underlying27 rfl rfl (by rfl) | exact q_load rfl Tryz.underlying27 rfl rfl (rd_st (i := i) h5 (by omega)))) ?_
        refine l_q rfl rfl rfl (q_move rfl rfl) ?_
        refine l_q rfl rfl rfl ((by first | exact q_indexAddrVN rfl Tryz.underlying27 ti29 rfl rfl (by omega) | exact q_indexAddrN rfl Tryz.underlying27 ti29 rfl rfl (Sl.shape h5 (List.length_map _)) (by omega) | exact q_indexAddrN rfl Tryz.underlying27 ti29 rfl rfl (Sl.shape h6 (List.length_map _)) (by omega) | exact q_indexAddrN rfl Tryz.underlying27 ti29 rfl rfl (Sl.shape h7 (List.length_map _)) (by omega) | exact q_indexAddrV rfl Tryz.underlying27 ti29 rfl rfl (by omega) | exact q_indexAddr rfl Tryz.underlying27 ti29 rfl rfl (Sl.shape h5 (List.length_map _)) (by omega) | exact q_indexAddr rfl Tryz.underlying27 ti29 rfl rfl (Sl.shape h6 (List.length_map _)) (by omega) | exact q_indexAddr rfl Tryz.underlying27 ti29 rfl rfl (Sl.shape h7 (List.length_map _)) (by omega))) ?_
        refine l_q rfl rfl rfl ((by first | exact q_load_rowA rfl Tryz.underlying29 ti29 rfl rfl rfl | exact q_load_agg rfl Tryz.underlying29 ti29 rfl rfl (h6.rds (rd_get (i := i) (by omega))) | exact q_load_agg rfl Tryz.underlying29 ti29 rfl rfl (h7.rds (nc_get (i := i) (by omega))))) ?_
        refine l_q rfl rfl rfl (quiet_call rfl rfl rfl Tryz.func11 (by kernel_rfl) rfl ((fun w hw => hrec i (by omega) w hw.le))) ?_
        refine l_q rfl rfl rfl (q_cat rfl rfl rfl (by first | omega | (simp only [List.length_append, List.length_cons, List.length_nil, List.length_take, List.length_drop]; omega))) ?_
        refine l_q rfl rfl rfl (q_assign rfl rfl) ?_
        refine l_nil ?_
        refine n_block ?_
        refine n_then ?_
        refine t_region ?_
        refine l_q rfl rfl rfl (q_move rfl rfl) ?_
        refine l_q rfl rfl rfl (q_add64 rfl rfl rfl (by omega)) ?_
        refine l_q rfl rfl rfl (q_assign rfl rfl) ?_
        refine l_nil ?_
        refine n_roundE ((i + 1, z ++ codeP (nth ks i nd0))) ?_ ?_ (sub_cons rfl (sub_cons rfl sub_nil)) (sub_cons rfl (sub_cons rfl (sub_cons rfl (sub_cons rfl (sub_cons rfl (sub_cons rfl (sub_cons rfl sub_nil))))))) (fun _ h => by try dsimp only; exact subC_st h)
        · try dsimp only
          exact ⟨by omega, by rw [hsn, hz]; simp only [List.append_assoc]⟩
        · try dsimp only
          show ks.length - (i + 1) < ks.length - i
          omega
      · skip
        try simp at hc5
        rw [List.take_of_length_le (by omega)] at hz hzl
        refine t_exit ?_
        refine n_exit_then ?_
        refine n_exit_then ?_
        refine n_exit_block ?_
        refine n_then ?_
        refine t_seq ?_
        refine t_region ?_
        refine l_q rfl rfl rfl (q_move rfl rfl) ?_
        refine l_q rfl rfl rfl (q_cat rfl rfl rfl (by first | omega | (simp only [List.length_append, List.length_cons, List.length_nil, List.length_take, List.length_drop]; omega))) ?_
        refine l_q rfl rfl rfl (q_assign rfl rfl) ?_
        refine l_nil ?_
        refine n_then ?_
        refine t_ret ?_
        refine n_ret1 rfl rfl (fun w' hw => ?_)
        -- leaf 0
        exact ⟨by rw [hz], hw.below⟩
theorem code_pure : ∀ (N : Nat) (n : Nd) (c : NC) (w : World), SizeOf.sizeOf n ≤ N → NdAt (look w) n c → NdK n → (codeP n).length ≤ 9223372036854775807 → Pure Tryz.prog 11 [.agg (ncC c).toArray] w (str (codeP n))
  | 0, n, _, _, h, _, _, _ => by
    have h1 : 1 ≤ SizeOf.sizeOf n := by (cases n; simp; omega)
    omega
  | N + 1, .mk k nt isin nm ws rs ks, c, w, h, hn, hK, hl => by
    unfold NdAt at hn
    obtain ⟨h1, h2, h3, h4, h5, h6, cs, h7, h8⟩ := hn
    obtain ⟨ck, cnt, ci, cnm, wv, rv, kv⟩ := c
    subst h1 h2 h3 h4
    unfold NdK at hK
    have hl' := hl
    rw [codeP] at hl'
    simp only [List.length_append, List.length_cons, List.length_nil] at hl'
    refine code_walk _ _ _ _ ws rs ks wv rv kv cs w hl hK.1 hK.2.1 h5 h6 h7 h8.len (fun i hi w' hle => ?_)
    refine code_pure N _ _ w' ?_ ((h8.nth hi).mono hle) (hK.2.2.nth hi) (by have := codes_nth (ks := ks) (i := i) hi; omega)
    have hm : nth ks i nd0 ∈ ks := by rw [nth_eq hi]; exact List.getElem_mem hi
    have := List.sizeOf_lt_of_mem hm
    simp at h
    omega
end Go.Tri
