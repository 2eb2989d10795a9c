/-
  The host: a parameter, a variable set.
-/
import Derived.Test.YtbogmbdfjgnfaaaGreatDoorEC3
namespace Go.Tri
open Go.Proofs Go.RowKit
def getX (x : Option (List UInt8)) (n : List UInt8) : List UInt8 × Bool := if n = [120] then (x.getD [], x.isSome) else ([], false)
/-- a name that is none of the special ones -/
def PlainN (n : List UInt8) : Prop := 0 < n.length ∧ digitB' (nth n 0 0) = false ∧ n ≠ [63] ∧ n ≠ [36] ∧ n ≠ [35]
theorem atX (x : Option (List UInt8)) (n : List UInt8) : ∃ y, AtV (varL x) n y ∧ y.value = (getX x n).1 ∧ (!y.u) = (getX x n).2 := by
  cases x with
  | none => exact ⟨⟨n, [], false, false, true⟩, ⟨-1, findV_nil n, rfl⟩, by simp [getX], by simp [getX]⟩
  | some v =>
    by_cases h : n = [120]
    · subst h
      refine ⟨⟨[120], v, false, false, false⟩, ⟨0, .inl ⟨0, rfl, by simp [varL], rfl, fun k h => absurd h (Nat.not_lt_zero _)⟩, rfl⟩, by simp [getX], by simp [getX]⟩
    · refine ⟨⟨n, [], false, false, true⟩, ⟨-1, .inr ⟨rfl, fun k hk => ?_⟩, rfl⟩, by simp [getX, h], by simp [getX, h]⟩
      have : k = 0 := by simp [varL] at hk; exact hk
      subst this
      exact fun e => h e.symm
theorem spec_no {n : List UInt8} (h : PlainN n) : ∀ k, k < specL.length → (nth specL k vr0).name ≠ n := by
  intro k hk e
  have h3 : k = 0 ∨ k = 1 ∨ k = 2 := by simp [specL] at hk; omega
  rcases h3 with rfl | rfl | rfl
  · exact h.2.2.1 e.symm
  · exact h.2.2.2.1 e.symm
  · have : n = [48] := e.symm
    subst this
    have := h.2.1
    revert this
    decide
theorem digit_of {n : List UInt8} (h : ((decide (n ≠ []) && decide (48 ≤ ((nth n 0 0).toNat : Int))) && decide (((nth n 0 0).toNat : Int) ≤ 57)) = true) : digitB' (nth n 0 0) = true := by
  rw [Bool.and_eq_true, Bool.and_eq_true] at h
  unfold digitB'
  simp [h.1.2, h.2]
/-- the host's rows -/
@[reducible] def hostH (p : HP) (lv av : Value) (h : Hx) (F : List HA) : List HA := row p.hb 37 [.pointer (some ⟨p.eb, 0, none⟩)] :: row p.eb 43 (envC p av) :: row p.vb 65 [lv, p.gv] :: tvec 9 1 svC av h.asked :: F
structure HostW (w : World) (p : HP) (lv av : Value) (h : Hx) : Prop where
  hb : Rowed w p.hb [.pointer (some ⟨p.eb, 0, none⟩)]
  eb : Rowed w p.eb (envC p av)
  vb : Rowed w p.vb [lv, p.gv]
  hi : HostI (look w) p lv h
theorem HostW.mono {w w' : World} {p : HP} {lv av : Value} {h : Hx} (k : HostW w p lv av h) (hle : Le (look w) (look w')) : HostW w' p lv av h := ⟨k.hb.mono hle, k.eb.mono hle, k.vb.mono hle, k.hi.mono hle⟩
theorem hostW_of {w0 w : World} {I : Look} {H : List HA} {p : HP} {lv av : Value} {h : Hx} (hi : HostI I p lv h) (hw : St w0 I H w) [InRow p.hb 37 [.pointer (some ⟨p.eb, 0, none⟩)] H] [InRow p.eb 43 (envC p av) H] [InRow p.vb 65 [lv, p.gv] H] : HostW w p lv av h := ⟨rowed_of (T := 37) hw, rowed_of (T := 43) hw, rowed_of (T := 65) hw, hi.mono hw.le⟩
set_option maxRecDepth 10000 in
theorem envParam_pure (p : HP) (lv av : Value) (h : Hx) (n : List UInt8) (w : World) (hn : PlainN n) (k : HostW w p lv av h) : Pure Tryz.prog 213 [.pointer (some ⟨p.eb, 0, none⟩), str n] w (.tuple #[str (getX h.x n).1, .bool (getX h.x n).2]) := by
  have hn0 := hn.1
  have hs3 : specL.length = 3 := rfl
  obtain ⟨y, hy, hy1, hy2⟩ := atX h.x n
  have hvl := varL_le h.x
  refine enter Tryz.func213 rfl Tryz.ntmps213 rfl (St.start w (look w) (Le.refl _)) ?_
  refine t_seq ?_
  refine t_region ?_
  refine l_q rfl rfl rfl (q_assign rfl rfl) ?_
  refine l_q rfl rfl rfl (q_assign rfl rfl) ?_
  refine l_nil ?_
  refine n_then ?_
  refine t_seq ?_
  refine t_seq ?_
  refine t_region ?_
  refine l_q rfl rfl rfl (q_assign rfl rfl) ?_
  refine l_nil ?_
  refine n_then ?_
  refine t_block ?_
  refine t_loopE (ι := Nat) (fun zz => zz ≤ specL.length) (fun zz => specL.length - zz) (fun zz => [(6, .int .i64 (zz : Int))]) [(0, _), (1, _)] (fun zz => look w) (fun zz => []) 0 ?_ (sub_cons rfl sub_nil) (sub_cons rfl (sub_cons rfl sub_nil)) (fun _ h => subC_st h) ?_
  · try dsimp only
    exact Nat.zero_le _
  rintro i hi
  try dsimp only at *
  refine t_seq ?_
  refine t_seq ?_
  refine t_region ?_
  refine l_q rfl rfl rfl (q_move rfl rfl) ?_
  refine l_q rfl rfl rfl (q_move rfl rfl) ?_
  refine l_q rfl rfl rfl (q_nilCheck rfl rfl) ?_
  refine l_q rfl rfl rfl (q_fieldAddr rfl Tryz.underlying43 rfl rfl ti23 rfl rfl) ?_
  refine l_q rfl rfl rfl ((by first | exact q_load_row rfl Tryz.underlying23 rfl rfl (by rfl) | exact q_load rfl Tryz.underlying23 rfl rfl (rd_imm (k.eb 1 _ rfl)) | exact q_load rfl Tryz.underlying23 rfl rfl (rd_imm (k.eb 0 _ rfl)) | exact q_load rfl Tryz.underlying23 rfl rfl (rd_vrf (i := i) (j := 0) k.hi.sp (by omega) rfl))) ?_
  refine l_q rfl rfl rfl ((by first | exact q_lenV rfl Tryz.underlying23 rfl | exact q_len rfl Tryz.underlying23 rfl (Sl.lenOf k.hi.sp (List.length_map _)))) ?_
  refine l_q rfl rfl rfl (q_lss rfl rfl rfl) ?_
  refine l_nil ?_
  refine n_then ?_
  refine t_cond rfl (fun hc0 => ?_) (fun hc0 => ?_)
  · skip
    try simp at hc0
    have hil : i < specL.length := by omega
    refine t_skip ?_
    refine n_then ?_
    refine t_seq ?_
    refine t_block ?_
    refine t_seq ?_
    refine t_region ?_
    refine l_q rfl rfl rfl (q_move rfl rfl) ?_
    refine l_q rfl rfl rfl (q_nilCheck rfl rfl) ?_
    refine l_q rfl rfl rfl (q_fieldAddr rfl Tryz.underlying43 rfl rfl ti23 rfl rfl) ?_
    refine l_q rfl rfl rfl ((by first | exact q_load_row rfl Tryz.underlying23 rfl rfl (by rfl) | exact q_load rfl Tryz.underlying23 rfl rfl (rd_imm (k.eb 1 _ rfl)) | exact q_load rfl Tryz.underlying23 rfl rfl (rd_imm (k.eb 0 _ rfl)) | exact q_load rfl Tryz.underlying23 rfl rfl (rd_vrf (i := i) (j := 0) k.hi.sp (by omega) rfl))) ?_
    refine l_q rfl rfl rfl (q_move rfl rfl) ?_
    refine l_q rfl rfl rfl ((by first | exact q_indexAddrVN rfl Tryz.underlying23 ti28 rfl rfl (by omega) | exact q_indexAddrN rfl Tryz.underlying23 ti28 rfl rfl (Sl.shape k.hi.sp (List.length_map _)) (by omega) | exact q_indexAddrV rfl Tryz.underlying23 ti28 rfl rfl (by omega) | exact q_indexAddr rfl Tryz.underlying23 ti28 rfl rfl (Sl.shape k.hi.sp (List.length_map _)) (by omega))) ?_
    refine l_q rfl rfl rfl (q_fieldAddr rfl Tryz.underlying28 rfl rfl ti9 rfl rfl) ?_
    refine l_q rfl rfl rfl ((by first | exact q_load_row rfl Tryz.underlying9 rfl rfl (by rfl) | exact q_load rfl Tryz.underlying9 rfl rfl (rd_imm (k.eb 1 _ rfl)) | exact q_load rfl Tryz.underlying9 rfl rfl (rd_imm (k.eb 0 _ rfl)) | exact q_load rfl Tryz.underlying9 rfl rfl (rd_vrf (i := i) (j := 0) k.hi.sp (by omega) rfl))) ?_
    refine l_q rfl rfl rfl (q_move rfl rfl) ?_
    refine l_q rfl rfl rfl (q_eql_str rfl rfl rfl) ?_
    refine l_nil ?_
    refine n_then ?_
    refine t_cond rfl (fun hc1 => ?_) (fun hc1 => ?_)
    · skip
      simp only [decide_eq_true_eq, decide_eq_false_iff_not] at hc1
      exact absurd hc1 (spec_no hn i hil)
    · skip
      simp only [decide_eq_true_eq, decide_eq_false_iff_not] at hc1
      refine t_skip ?_
      refine n_block ?_
      refine n_then ?_
      refine t_region ?_
      refine l_q rfl rfl rfl (q_move rfl rfl) ?_
      refine l_q rfl rfl rfl (q_add64 rfl rfl rfl (by omega)) ?_
      refine l_q rfl rfl rfl (q_assign rfl rfl) ?_
      refine l_nil ?_
      refine n_roundE (i + 1) ?_ ?_ (sub_cons rfl sub_nil) (sub_cons rfl (sub_cons rfl sub_nil)) (fun _ h => by try dsimp only; exact subC_st h)
      · try dsimp only
        show i + 1 ≤ specL.length
        omega
      · try dsimp only
        show specL.length - (i + 1) < specL.length - i
        omega
  · skip
    try simp at hc0
    refine t_exit ?_
    refine n_exit_then ?_
    refine n_exit_then ?_
    refine n_exit_block ?_
    refine n_then ?_
    refine t_seq ?_
    refine t_seq ?_
    refine t_qreg ?_
    refine s_q rfl rfl rfl (q_move rfl rfl) ?_
    refine s_q rfl rfl rfl (q_neq_str rfl rfl rfl) ?_
    refine s_q rfl rfl rfl (q_move rfl rfl) ?_
    refine s_and2 3 2 47 51 50 _ _ rfl rfl rfl rfl rfl rfl (fun h51 => by
        try simp at h51
        refine s_g rfl rfl rfl rfl rfl rfl (q_move rfl rfl) ?_
        refine s_g rfl rfl rfl rfl rfl rfl ((by first | exact q_index_strN rfl Tryz.underlying9 rfl rfl (by omega) | exact q_index_str rfl Tryz.underlying9 rfl rfl (by omega))) ?_
        refine s_g rfl rfl rfl rfl rfl rfl (q_geq rfl rfl rfl) ?_
        exact s_val rfl
      ) (wanted_n rfl) rfl rfl rfl ?_
    refine s_q rfl rfl rfl (q_move rfl rfl) ?_
    refine s_and2 3 7 52 56 55 _ _ rfl rfl rfl rfl rfl rfl (fun h56 => by
        try simp at h56
        refine s_g rfl rfl rfl rfl rfl rfl (q_move rfl rfl) ?_
        refine s_g rfl rfl rfl rfl rfl rfl ((by first | exact q_index_strN rfl Tryz.underlying9 rfl rfl (by omega) | exact q_index_str rfl Tryz.underlying9 rfl rfl (by omega))) ?_
        refine s_g rfl rfl rfl rfl rfl rfl (q_leq rfl rfl rfl) ?_
        exact s_val rfl
      ) (wanted_n rfl) rfl rfl rfl ?_
    refine s_done ?_
    refine n_then ?_
    refine t_cond rfl (fun hc2 => ?_) (fun hc2 => ?_)
    · skip
      have hd := digit_of hc2
      rw [hn.2.1] at hd
      cases hd
    · skip
      refine t_skip ?_
      refine n_then ?_
      refine t_seq ?_
      refine t_seq ?_
      refine t_region ?_
      refine l_q rfl rfl rfl (q_move rfl rfl) ?_
      refine l_q rfl rfl rfl (q_eql_str rfl rfl rfl) ?_
      refine l_nil ?_
      refine n_then ?_
      refine t_cond rfl (fun hc3 => ?_) (fun hc3 => ?_)
      · skip
        simp only [decide_eq_true_eq, decide_eq_false_iff_not] at hc3
        exact absurd hc3 hn.2.2.2.2
      · skip
        simp only [decide_eq_true_eq, decide_eq_false_iff_not] at hc3
        refine t_skip ?_
        refine n_then ?_
        refine t_seq ?_
        refine t_region ?_
        refine l_q rfl rfl rfl (q_move rfl rfl) ?_
        refine l_q rfl rfl rfl (q_nilCheck rfl rfl) ?_
        refine l_q rfl rfl rfl (q_fieldAddr rfl Tryz.underlying43 rfl rfl ti40 rfl rfl) ?_
        refine l_q rfl rfl rfl ((by first | exact q_load_row rfl Tryz.underlying40 rfl rfl (by rfl) | exact q_load rfl Tryz.underlying40 rfl rfl (rd_imm (k.eb 1 _ rfl)) | exact q_load rfl Tryz.underlying40 rfl rfl (rd_imm (k.eb 0 _ rfl)) | exact q_load rfl Tryz.underlying40 rfl rfl (rd_vrf (i := i) (j := 0) k.hi.sp (by omega) rfl))) ?_
        refine l_q rfl rfl rfl (q_move rfl rfl) ?_
        refine l_q rfl rfl rfl (quiet_call rfl rfl rfl Tryz.func217 (by kernel_rfl) rfl ((fun w hw => get_pure p.vb (varL h.x) lv p.gv w (by omega) (k.vb.mono hw.le) (k.hi.li.mono hw.le) n y hy))) ?_
        refine l_q rfl rfl rfl (q_extract rfl rfl rfl) ?_
        refine l_q rfl rfl rfl (q_extract rfl rfl rfl) ?_
        refine l_q rfl rfl rfl (q_assign rfl rfl) ?_
        refine l_q rfl rfl rfl (q_assign rfl rfl) ?_
        refine l_nil ?_
        refine n_then ?_
        refine t_ret ?_
        refine n_ret2 rfl rfl rfl (fun w' hw => ?_)
        -- leaf 0
        refine ⟨?_, hw.below⟩
        rw [← hy1, ← hy2]; rfl
set_option maxRecDepth 10000 in
theorem hostParam_pure (p : HP) (lv av : Value) (h : Hx) (n : List UInt8) (w : World) (hn : PlainN n) (k : HostW w p lv av h) : Pure Tryz.prog 209 [.pointer (some ⟨p.hb, 0, none⟩), str n] w (.tuple #[str (getX h.x n).1, .bool (getX h.x n).2]) := by
  refine enter Tryz.func209 rfl Tryz.ntmps209 rfl (St.start w (look w) (Le.refl _)) ?_
  refine t_seq ?_
  refine t_region ?_
  refine l_q rfl rfl rfl (q_assign rfl rfl) ?_
  refine l_q rfl rfl rfl (q_assign rfl rfl) ?_
  refine l_nil ?_
  refine n_then ?_
  refine t_seq ?_
  refine t_region ?_
  refine l_q rfl rfl rfl (q_move rfl rfl) ?_
  refine l_q rfl rfl rfl (q_nilCheck rfl rfl) ?_
  refine l_q rfl rfl rfl (q_fieldAddr rfl Tryz.underlying37 rfl rfl ti34 rfl rfl) ?_
  refine l_q rfl rfl rfl ((by first | exact q_load_row rfl Tryz.underlying34 rfl rfl (by rfl) | exact q_load rfl Tryz.underlying34 rfl rfl (rd_imm (k.hb 0 _ rfl)))) ?_
  refine l_q rfl rfl rfl (q_move rfl rfl) ?_
  refine l_q rfl rfl rfl (quiet_call rfl rfl rfl Tryz.func213 (by kernel_rfl) rfl ((fun w hw => envParam_pure p lv av h n w hn (k.mono hw.le)))) ?_
  refine l_q rfl rfl rfl (q_extract rfl rfl rfl) ?_
  refine l_q rfl rfl rfl (q_extract rfl rfl rfl) ?_
  refine l_q rfl rfl rfl (q_assign rfl rfl) ?_
  refine l_q rfl rfl rfl (q_assign rfl rfl) ?_
  refine l_nil ?_
  refine n_then ?_
  refine t_ret ?_
  refine n_ret2 rfl rfl rfl (fun w' hw => ?_)
  -- leaf 0
  exact ⟨rfl, hw.below⟩
end Go.Tri
