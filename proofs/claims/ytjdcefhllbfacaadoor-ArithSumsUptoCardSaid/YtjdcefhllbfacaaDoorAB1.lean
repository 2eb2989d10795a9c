/-
  What a variable is worth.
-/
import Derived.Test.YtjdcefhllbfacaaDoorAA9
namespace Go.Tri
open Go.Proofs Go.RowKit
theorem sl_vec {w0 w : World} {I : Look} {H : List HA} {v : Value} {T : TypeId} {S : List Ass} (hw : St w0 I H w) [hm : InVec v T 2 S.length (S.map asC).flatten H] : Sl (look w) 2 v (S.map asC) := by
  obtain ⟨X, Y, hH⟩ := List.append_of_mem hm.mem
  have hp : H.Perm (vec v T 2 S.length (S.map asC).flatten :: (X ++ Y)) := by rw [hH]; exact List.perm_middle
  obtain ⟨J, _, h2, h3⟩ := st_freeze (xss := S.map asC) (hw.perm hp) (List.length_map _) (fun cs hcs => by obtain ⟨a, _, rfl⟩ := List.mem_map.1 hcs; rfl)
  exact h3.mono h2.imm
def VarsOk (vars : List Vr) : Prop := vars.length ≤ 1000000000 ∧ ∀ v ∈ vars, v.value.length ≤ 1000000000
theorem worth_hit {vs : List (List UInt8 × List UInt8)} {S : List Ass} {n : List UInt8} {a : Ass} (h : S.reverse.find? (fun a => decide (a.1 = n)) = some a) : worthP vs S n = (a.2, 0) := by
  unfold worthP; rw [h]
theorem worth_zero {vars : List Vr} {S : List Ass} {n : List UInt8} (h : S.reverse.find? (fun a => decide (a.1 = n)) = none) (hv : vIdx n vars 0 < 0) : worthP (vars.map Vr.nv) S n = (0, 0) := by
  unfold worthP; rw [h]; simp only
  rw [find_nv]
  rcases vIdx_find (n := n) vars 0 with ⟨_, h2⟩ | ⟨k, _, h2, _⟩
  · rw [h2]; rfl
  · omega
theorem worth_var {vars : List Vr} {S : List Ass} {n : List UInt8} (h : S.reverse.find? (fun a => decide (a.1 = n)) = none) (hv : ¬ vIdx n vars 0 < 0) : ∃ k, k < vars.length ∧ vIdx n vars 0 = (k : Int) ∧ worthP (vars.map Vr.nv) S n = numW (nth vars k vr0).value := by
  rcases vIdx_find (n := n) vars 0 with ⟨h1, _⟩ | ⟨k, h1, h2, h3⟩
  · omega
  · refine ⟨k, h1, by rw [h2, Nat.zero_add], ?_⟩
    unfold worthP; rw [h]; simp only
    rw [find_nv, h3]; rfl
def numR (s : List UInt8) : List UInt8 := if nth s 0 0 = 45 ∨ nth s 0 0 = 43 then s.drop 1 else s
theorem numR_le (s : List UInt8) : (numR s).length ≤ s.length := by
  unfold numR; split
  · rw [List.length_drop]; omega
  · exact Nat.le_refl _
theorem num_empty {t : List UInt8} (h : Lib.trimS t blS = []) : numW t = (0, 0) := by
  unfold numW; simp only; rw [if_pos h]
theorem num_bad {t s r : List UInt8} (hs : s = Lib.trimS t blS) (h : s ≠ []) (hr : r = numR s) (hb : ((decide (r = []) || decide (((nth r 0 0).toNat : Int) < 48)) || decide (57 < ((nth r 0 0).toNat : Int))) = true) : numW t = (0, 60) := by
  subst hs hr
  unfold numW; simp only; rw [if_neg h, if_pos]
  simp only [Bool.or_eq_true, decide_eq_true_eq] at hb
  unfold numR at hb
  by_cases he : (if nth (Lib.trimS t blS) 0 0 = 45 ∨ nth (Lib.trimS t blS) 0 0 = 43 then (Lib.trimS t blS).drop 1 else Lib.trimS t blS) = []
  · exact .inl he
  · refine .inr ?_
    unfold digitB'
    rw [Bool.and_eq_false_iff, decide_eq_false_iff_not, decide_eq_false_iff_not]
    rcases hb with (hb | hb) | hb
    · exact absurd hb he
    · exact .inl (by omega)
    · exact .inr (by omega)
theorem num_go {t s r : List UInt8} (hs : s = Lib.trimS t blS) (h : s ≠ []) (hr : r = numR s) (hb : ((decide (r = []) || decide (((nth r 0 0).toNat : Int) < 48)) || decide (57 < ((nth r 0 0).toNat : Int))) = false) : r ≠ [] ∧ numW t = (match numLit r with
      | none => (0, 60)
      | some q => if q.2 = r.length then (if nth s 0 0 = 45 then w64 (-q.1) else q.1, 0) else (0, 60)) := by
  subst hs hr
  simp only [Bool.or_eq_false_iff, decide_eq_false_iff_not] at hb
  refine ⟨hb.1.1, ?_⟩
  unfold numW; simp only; rw [if_neg h, if_neg]
  · rfl
  · unfold numR at hb
    rintro (h1 | h1)
    · exact hb.1.1 h1
    · unfold digitB' at h1
      rw [Bool.and_eq_false_iff, decide_eq_false_iff_not, decide_eq_false_iff_not] at h1
      rcases h1 with h1 | h1
      · exact hb.1.2 (by omega)
      · exact hb.2 (by omega)
theorem num_fail {r s : List UInt8} {x : Int × Nat} (hx : x = (match numLit r with
      | none => (0, 60)
      | some q => if q.2 = r.length then (if nth s 0 0 = 45 then w64 (-q.1) else q.1, 0) else (0, 60))) (h : (!(numLit r).isSome || decide (((litV r).2 : Int) ≠ (r.length : Int))) = true) : x = (0, 60) := by
  rw [hx]
  unfold litV at h
  cases hn : numLit r with
  | none => rfl
  | some q =>
    rw [hn] at h
    simp only
    rw [if_neg]
    intro he
    rw [show ((some q).getD (0, 0)).2 = q.2 from rfl, he] at h
    simp at h
theorem num_done {r s : List UInt8} {x : Int × Nat} (hx : x = (match numLit r with
      | none => (0, 60)
      | some q => if q.2 = r.length then (if nth s 0 0 = 45 then w64 (-q.1) else q.1, 0) else (0, 60))) (h : (!(numLit r).isSome || decide (((litV r).2 : Int) ≠ (r.length : Int))) = false) : x = (if nth s 0 0 = 45 then w64 (-(litV r).1) else (litV r).1, 0) := by
  rw [hx]
  unfold litV at h ⊢
  cases hn : numLit r with
  | none => rw [hn] at h; cases h
  | some q =>
    rw [hn] at h
    simp only [Option.isSome_some, Bool.not_true, Bool.false_or, decide_eq_false_iff_not, Classical.not_not, Option.getD_some] at h ⊢
    rw [if_pos (by omega)]
theorem trimS_le (s cs : List UInt8) : (Lib.trimS s cs).length ≤ s.length := by
  unfold Lib.trimS Lib.trimRightS
  have h1 := trimL_le (s.reverse.dropWhile (cs.contains ·)).reverse cs
  have h2 := (List.dropWhile_sublist (l := s.reverse) (cs.contains ·)).length_le
  rw [List.length_reverse] at h1 h2
  omega
set_option maxRecDepth 10000 in
theorem worth_pure (b : Nat) (vv sv : Value) (vars : List Vr) (S : List Ass) (n : List UInt8) (w : World) (hb : RowI (look w) b [vv, sv]) (hv : Sl (look w) 5 vv (vars.map vrC)) (hs : Sl (look w) 2 sv (S.map asC)) (hV : VarsOk vars) (hS : S.length ≤ 1000000000) : Pure Tryd.prog 20 [pAt b, str n] w (.tuple #[.int .i64 (worthP (vars.map Vr.nv) S n).1, .int .i64 ((worthP (vars.map Vr.nv) S n).2 : Int)]) := by
  refine enterMN Tryd.func20 rfl Tryd.ntmps20 rfl (St.start w (look w) (Le.refl _)) ?_
  refine t_seq ?_
  refine t_region ?_
  refine l_e rfl rfl rfl (e_box rfl rfl (by first | exact One.cells (by assumption) | rfl)) ?_
  rintro _ _ _ ⟨b3, rfl, rfl, rfl⟩
  refine l_e rfl rfl rfl (e_alloc rfl ti2 rfl) ?_
  rintro _ _ _ ⟨b4, rfl, rfl, rfl⟩
  refine l_e rfl rfl rfl (e_alloc rfl ti25 rfl) ?_
  rintro _ _ _ ⟨b5, rfl, rfl, rfl⟩
  refine l_nil ?_
  refine n_then ?_
  refine t_seq ?_
  refine t_seq ?_
  refine t_region ?_
  refine l_q rfl rfl rfl (q_move rfl rfl) ?_
  refine l_q rfl rfl rfl (q_nilCheck rfl rfl) ?_
  refine l_q rfl rfl rfl (q_fieldAddr rfl Tryd.underlying45 rfl rfl ti24 rfl rfl) ?_
  refine l_q rfl rfl rfl ((by first | exact q_load_row rfl Tryd.underlying24 rfl rfl (by rfl) | exact q_load rfl Tryd.underlying24 rfl rfl (rd_imm (hb 1 _ rfl)) | exact q_load rfl Tryd.underlying24 rfl rfl (rd_imm ((hb.mono hJ18) 0 _ rfl)) | exact q_load rfl Tryd.underlying24 rfl rfl (rd_vrf (i := k) (j := 1) (hv.mono hJ18) hkl rfl))) ?_
  refine l_e rfl rfl rfl (eff_call rfl rfl rfl Tryd.func37 (by kernel_rfl) rfl (fun w hw => backward_calls sv hs.one _ _ _ w hw)) ?_
  rintro _ J18 _ ⟨hJ18, rfl, b18, rfl, hb18⟩
  refine l_nil ?_
  refine n_then ?_
  refine t_block ?_
  refine t_range (γ := Int) (backward_iter S sv b18 (look w) hS hs) rfl rfl Tryd.func50 (by kernel_rfl) rfl (fun nn zz => (zz = 0) ∧ ∀ j, j < nn → (nth S (S.length - 1 - j) as0).1 ≠ n) (fun cc zz => (cc = .ret ∧ (worthP (vars.map Vr.nv) S n) = (zz, 0))) [] (fun zz TT => (row b5 25 [.int .i64 0] :: row b4 2 [.int .i64 zz] :: row b3 9 [str n] :: TT)) (fun _ _ => rfl) (fun zz => J18) [(0, _), (1, _), (3, _), (4, _), (5, _), (18, _)] (sub_cons rfl (sub_cons rfl (sub_cons rfl (sub_cons rfl (sub_cons rfl (sub_cons rfl sub_nil)))))) 0 ?_ ?_ ?_ ?_ rfl ?_ ?_ ?_ ?_
  · exact ⟨rfl, fun j h => absurd h (Nat.not_lt_zero _)⟩
  · exact ⟨hb18, hJ18⟩
  · exact Le.refl _
  · exact fun _ h => subC_st h
  · exact bwS_one
  · intro bl ready busy done dfr nn vs a w0r FF hi hinv hrs hbz
    obtain ⟨ha, hno⟩ := hinv
    try dsimp only at *
    obtain ⟨hnl, rfl⟩ := bwS_of hi
    subst ha
    refine t_region ?_
    refine l_e rfl rfl rfl (e_alloc rfl ti37 rfl) ?_
    rintro _ _ _ ⟨b7, rfl, rfl, rfl⟩
    refine l_heap (H' := row b7 37 (asC as0) :: _) ?_ (fun _ h => h)
    refine l_e0 rfl rfl ((by first | exact e_store_all rfl ti37 rfl rfl rfl (by first | exact chC_ones _ | exact pcC_ones _ | exact asC_ones _ | simp [Value.oneCell', str, u8]) rfl | exact e_store_agg rfl ti37 rfl rfl rfl (by first | exact chC_ones _ | exact pcC_ones _ | exact asC_ones _ | simp [Value.oneCell', str, u8]) rfl)) ?_
    rintro _ _ _ ⟨rfl, rfl⟩
    refine l_heap (H' := row b7 37 (asC (nth S (S.length - 1 - nn) as0)) :: _) ?_ (fun _ h => h)
    refine l_nil ?_
    refine n_begin (by rfl) hrs ?_
    refine t_block ?_
    refine t_seq ?_
    refine t_region ?_
    refine l_q rfl rfl rfl (q_fieldAddr rfl Tryd.underlying37 rfl rfl ti9 rfl rfl) ?_
    refine l_q rfl rfl rfl ((by first | exact q_load_row rfl Tryd.underlying9 rfl rfl (by rfl) | exact q_load rfl Tryd.underlying9 rfl rfl (rd_imm (hb 1 _ rfl)) | exact q_load rfl Tryd.underlying9 rfl rfl (rd_imm ((hb.mono hJ18) 0 _ rfl)) | exact q_load rfl Tryd.underlying9 rfl rfl (rd_vrf (i := k) (j := 1) (hv.mono hJ18) hkl rfl))) ?_
    refine l_q rfl rfl rfl ((by first | exact q_load_row rfl Tryd.underlying9 rfl rfl (by rfl) | exact q_load rfl Tryd.underlying9 rfl rfl (rd_imm (hb 1 _ rfl)) | exact q_load rfl Tryd.underlying9 rfl rfl (rd_imm ((hb.mono hJ18) 0 _ rfl)) | exact q_load rfl Tryd.underlying9 rfl rfl (rd_vrf (i := k) (j := 1) (hv.mono hJ18) hkl rfl))) ?_
    refine l_q rfl rfl rfl (q_eql_str rfl rfl rfl) ?_
    refine l_nil ?_
    refine n_then ?_
    refine t_cond rfl (fun hc0 => ?_) (fun hc0 => ?_)
    · skip
      refine t_seq ?_
      refine t_region ?_
      refine l_q rfl rfl rfl (q_fieldAddr rfl Tryd.underlying37 rfl rfl ti2 rfl rfl) ?_
      refine l_q rfl rfl rfl ((by first | exact q_load_row rfl Tryd.underlying2 rfl rfl (by rfl) | exact q_load rfl Tryd.underlying2 rfl rfl (rd_imm (hb 1 _ rfl)) | exact q_load rfl Tryd.underlying2 rfl rfl (rd_imm ((hb.mono hJ18) 0 _ rfl)) | exact q_load rfl Tryd.underlying2 rfl rfl (rd_vrf (i := k) (j := 1) (hv.mono hJ18) hkl rfl))) ?_
      refine l_e0 rfl rfl (e_storeS rfl ti2 rfl rfl (by first | exact ⟨rfl, rfl⟩ | assumption) rfl (by first | (simp only [List.set_cons_succ, List.set_cons_zero]; rfl) | rfl)) ?_
      rintro _ _ _ ⟨rfl, rfl⟩
      refine l_e0 rfl rfl (e_storeS rfl ti25 rfl rfl (by first | exact ⟨rfl, rfl⟩ | assumption) rfl (by first | (simp only [List.set_cons_succ, List.set_cons_zero]; rfl) | rfl)) ?_
      rintro _ _ _ ⟨rfl, rfl⟩
      refine l_nil ?_
      refine n_then ?_
      refine t_ret ?_
      refine n_ret_block ?_
      refine n_rret (fun w' hw' => .inr ⟨rfl, .ret, ((nth S (S.length - 1 - nn) as0).2), ?_, ?_, ?_⟩)
      · try dsimp only
        exact ⟨rfl, worth_hit (find_back S nn hnl hno (of_decide_eq_true hc0))⟩
      · exact Le.refl _
      · try dsimp only
        exact subC_st hw'
    · skip
      refine t_skip ?_
      refine n_block ?_
      refine n_rnext (fun w' hw' => .inl ⟨rfl, (0), ?_, ?_, ?_⟩)
      · try dsimp only
        refine ⟨rfl, fun j hj => ?_⟩
        rcases Nat.lt_succ_iff_lt_or_eq.1 hj with h | rfl
        · exact hno j h
        · exact of_decide_eq_false hc0
      · exact Le.refl _
      · try dsimp only
        exact subC_st hw'
  · skip
    intro bd a hinv hle
    obtain ⟨ha, hno⟩ := hinv
    try dsimp only at *
    rw [bwS_len] at hno
    subst ha
    have hfn := find_none hno
    refine n_block ?_
    refine n_then ?_
    refine t_seq ?_
    refine t_region ?_
    refine l_q rfl rfl rfl (q_move rfl rfl) ?_
    refine l_q rfl rfl rfl (q_nilCheck rfl rfl) ?_
    refine l_q rfl rfl rfl (q_fieldAddr rfl Tryd.underlying45 rfl rfl ti22 rfl rfl) ?_
    refine l_q rfl rfl rfl ((by first | exact q_load_row rfl Tryd.underlying22 rfl rfl (by rfl) | exact q_load rfl Tryd.underlying22 rfl rfl (rd_imm (hb 1 _ rfl)) | exact q_load rfl Tryd.underlying22 rfl rfl (rd_imm ((hb.mono hJ18) 0 _ rfl)) | exact q_load rfl Tryd.underlying22 rfl rfl (rd_vrf (i := k) (j := 1) (hv.mono hJ18) hkl rfl))) ?_
    refine l_q rfl rfl rfl (q_makeFunc rfl rfl rfl) ?_
    refine l_q rfl rfl rfl (quiet_call rfl rfl rfl Tryd.func38 (by kernel_rfl) rfl ((fun w hw => vIdx_pure vv vars b3 n w hV.1 (hv.mono (hJ18.trans hw.le)) (rowI_of (b := b3) hw 0 _ rfl)))) ?_
    refine l_q rfl rfl rfl (q_assign rfl rfl) ?_
    refine l_nil ?_
    refine n_then ?_
    refine t_seq ?_
    refine t_seq ?_
    refine t_region ?_
    refine l_q rfl rfl rfl (q_move rfl rfl) ?_
    refine l_q rfl rfl rfl (q_lss rfl rfl rfl) ?_
    refine l_nil ?_
    refine n_then ?_
    refine t_cond rfl (fun hc1 => ?_) (fun hc1 => ?_)
    · skip
      have hvi := of_decide_eq_true hc1
      refine t_seq ?_
      refine t_region ?_
      refine l_e0 rfl rfl (e_storeS rfl ti2 rfl rfl (by first | exact ⟨rfl, rfl⟩ | assumption) rfl (by first | (simp only [List.set_cons_succ, List.set_cons_zero]; rfl) | rfl)) ?_
      rintro _ _ _ ⟨rfl, rfl⟩
      refine l_e0 rfl rfl (e_storeS rfl ti25 rfl rfl (by first | exact ⟨rfl, rfl⟩ | assumption) rfl (by first | (simp only [List.set_cons_succ, List.set_cons_zero]; rfl) | rfl)) ?_
      rintro _ _ _ ⟨rfl, rfl⟩
      refine l_nil ?_
      refine n_then ?_
      refine t_ret ?_
      refine n_ret_then ?_
      refine n_np_ret ?_
      refine n_retGM (bs := [bd]) (.inl rfl) rfl (by exact res_cell rfl Tryd.underlying2 rfl (by first | exact rd_rowI rfl | exact rd_imm (hb 1 _ rfl) | exact rd_imm ((hb.mono hJ18) 0 _ rfl) | exact rd_vrf (i := k) (j := 1) (hv.mono hJ18) hkl rfl) (res_cell rfl Tryd.underlying25 rfl (by first | exact rd_rowI rfl | exact rd_imm (hb 1 _ rfl) | exact rd_imm ((hb.mono hJ18) 0 _ rfl) | exact rd_vrf (i := k) (j := 1) (hv.mono hJ18) hkl rfl) (res_nil))) (fun w' hw => ?_)
      -- leaf 0
      refine ⟨?_, (hw.less hJ18).below⟩
      rw [worth_zero hfn hvi]; rfl
    · skip
      obtain ⟨k, hkl, hke, hW⟩ := worth_var hfn (of_decide_eq_false hc1)
      rw [hke]
      refine t_skip ?_
      refine n_then ?_
      refine t_seq ?_
      refine t_region ?_
      refine l_q rfl rfl rfl (q_move rfl rfl) ?_
      refine l_q rfl rfl rfl (q_nilCheck rfl rfl) ?_
      refine l_q rfl rfl rfl (q_fieldAddr rfl Tryd.underlying45 rfl rfl ti22 rfl rfl) ?_
      refine l_q rfl rfl rfl ((by first | exact q_load_row rfl Tryd.underlying22 rfl rfl (by rfl) | exact q_load rfl Tryd.underlying22 rfl rfl (rd_imm (hb 1 _ rfl)) | exact q_load rfl Tryd.underlying22 rfl rfl (rd_imm ((hb.mono hJ18) 0 _ rfl)) | exact q_load rfl Tryd.underlying22 rfl rfl (rd_vrf (i := k) (j := 1) (hv.mono hJ18) hkl rfl))) ?_
      refine l_q rfl rfl rfl (q_move rfl rfl) ?_
      refine l_q rfl rfl rfl ((by first | exact q_indexAddrVN rfl Tryd.underlying22 ti32 rfl rfl (by omega) | exact q_indexAddrN rfl Tryd.underlying22 ti32 rfl rfl (Sl.shape (hv.mono hJ18) (List.length_map _)) (by omega) | exact q_indexAddrV rfl Tryd.underlying22 ti32 rfl rfl (by omega) | exact q_indexAddr rfl Tryd.underlying22 ti32 rfl rfl (Sl.shape (hv.mono hJ18) (List.length_map _)) (by omega))) ?_
      refine l_q rfl rfl rfl (q_fieldAddr rfl Tryd.underlying32 rfl rfl ti9 rfl rfl) ?_
      refine l_q rfl rfl rfl ((by first | exact q_load_row rfl Tryd.underlying9 rfl rfl (by rfl) | exact q_load rfl Tryd.underlying9 rfl rfl (rd_imm (hb 1 _ rfl)) | exact q_load rfl Tryd.underlying9 rfl rfl (rd_imm ((hb.mono hJ18) 0 _ rfl)) | exact q_load rfl Tryd.underlying9 rfl rfl (rd_vrf (i := k) (j := 1) (hv.mono hJ18) hkl rfl))) ?_
      refine l_q rfl rfl rfl (quiet_call rfl rfl rfl Tryd.func14 (by kernel_rfl) rfl ((fun w _ => trimB_pure (nth vars k vr0).value blS w (hV.2 _ (nth_mem hkl)) (by decide) (by decide)))) ?_
      obtain ⟨s, hsx⟩ : ∃ s, s = Lib.trimS (nth vars k vr0).value blS := ⟨_, rfl⟩
      rw [show Lib.trimS (nth vars k vr0).value blS = s from hsx.symm]
      have hsl : s.length ≤ 1000000000 := by rw [hsx]; exact Nat.le_trans (trimS_le _ _) (hV.2 _ (nth_mem hkl))
      refine l_q rfl rfl rfl (q_assign rfl rfl) ?_
      refine l_nil ?_
      refine n_then ?_
      refine t_seq ?_
      refine t_seq ?_
      refine t_region ?_
      refine l_q rfl rfl rfl (q_move rfl rfl) ?_
      refine l_q rfl rfl rfl (q_eql_str rfl rfl rfl) ?_
      refine l_nil ?_
      refine n_then ?_
      refine t_cond rfl (fun hc2 => ?_) (fun hc2 => ?_)
      · skip
        have hse : s = [] := of_decide_eq_true hc2
        refine t_seq ?_
        refine t_region ?_
        refine l_e0 rfl rfl (e_storeS rfl ti2 rfl rfl (by first | exact ⟨rfl, rfl⟩ | assumption) rfl (by first | (simp only [List.set_cons_succ, List.set_cons_zero]; rfl) | rfl)) ?_
        rintro _ _ _ ⟨rfl, rfl⟩
        refine l_e0 rfl rfl (e_storeS rfl ti25 rfl rfl (by first | exact ⟨rfl, rfl⟩ | assumption) rfl (by first | (simp only [List.set_cons_succ, List.set_cons_zero]; rfl) | rfl)) ?_
        rintro _ _ _ ⟨rfl, rfl⟩
        refine l_nil ?_
        refine n_then ?_
        refine t_ret ?_
        refine n_ret_then ?_
        refine n_np_ret ?_
        refine n_retGM (bs := [bd]) (.inl rfl) rfl (by exact res_cell rfl Tryd.underlying2 rfl (by first | exact rd_rowI rfl | exact rd_imm (hb 1 _ rfl) | exact rd_imm ((hb.mono hJ18) 0 _ rfl) | exact rd_vrf (i := k) (j := 1) (hv.mono hJ18) hkl rfl) (res_cell rfl Tryd.underlying25 rfl (by first | exact rd_rowI rfl | exact rd_imm (hb 1 _ rfl) | exact rd_imm ((hb.mono hJ18) 0 _ rfl) | exact rd_vrf (i := k) (j := 1) (hv.mono hJ18) hkl rfl) (res_nil))) (fun w' hw => ?_)
        -- leaf 1
        refine ⟨?_, (hw.less hJ18).below⟩
        rw [hW, num_empty (hsx.symm.trans hse)]; rfl
      · skip
        have hsn : s ≠ [] := of_decide_eq_false hc2
        refine t_skip ?_
        refine n_then ?_
        refine t_seq ?_
        have hs0 : 0 < s.length := List.length_pos_iff.2 hsn
        refine t_region ?_
        refine l_q rfl rfl rfl (q_move rfl rfl) ?_
        refine l_q rfl rfl rfl ((by first | exact q_index_strN rfl Tryd.underlying9 rfl rfl (by omega) | exact q_index_str rfl Tryd.underlying9 rfl rfl (by omega))) ?_
        refine l_q rfl rfl rfl (q_eql_u8c rfl rfl rfl rfl) ?_
        refine l_q rfl rfl rfl (q_assign rfl rfl) ?_
        refine l_nil ?_
        refine n_then ?_
        refine t_cutE (ι := List UInt8) (fun zz => zz = numR s) (fun zz => [(9, str zz)]) [(0, _), (1, _), (3, _), (4, _), (5, _), (18, _), (8, _), (34, _), (45, _), (10, _)] (fun zz => J18) (fun zz => (row b5 25 [.int .i64 0] :: row b4 2 [.int .i64 0] :: row b3 9 [str n] :: obj bd (.deferred (some [])) :: [])) (sub_cons rfl (sub_cons rfl (sub_cons rfl (sub_cons rfl (sub_cons rfl (sub_cons rfl (sub_cons rfl (sub_cons rfl (sub_cons rfl (sub_cons rfl sub_nil)))))))))) ?_ ?_
        · skip
          refine t_seq ?_
          have hs0 : 0 < s.length := List.length_pos_iff.2 hsn
          refine t_qreg ?_
          refine s_q rfl rfl rfl (q_move rfl rfl) ?_
          refine s_q rfl rfl rfl (q_move rfl rfl) ?_
          refine s_or2 3 1 50 54 53 _ _ rfl rfl rfl rfl rfl rfl (fun h54 => by
              try simp at h54
              refine s_g rfl rfl rfl rfl rfl rfl (q_move rfl rfl) ?_
              refine s_g rfl rfl rfl rfl rfl rfl ((by first | exact q_index_strN rfl Tryd.underlying9 rfl rfl (by omega) | exact q_index_str rfl Tryd.underlying9 rfl rfl (by omega))) ?_
              refine s_g rfl rfl rfl rfl rfl rfl (q_eql_u8c rfl rfl rfl rfl) ?_
              exact s_val rfl
            ) (wanted_n rfl) rfl rfl rfl ?_
          refine s_done ?_
          refine n_then ?_
          refine t_cond rfl (fun hc3 => ?_) (fun hc3 => ?_)
          · skip
            refine t_region ?_
            refine l_q rfl rfl rfl (q_move rfl rfl) ?_
            refine l_q rfl rfl rfl (q_slice_str_from rfl Tryd.underlying9 rfl rfl (by omega)) ?_
            refine l_q rfl rfl rfl (q_assign rfl rfl) ?_
            refine l_nil ?_
            refine n_cut (s.drop 1) ?_ (sub_cons rfl sub_nil) (sub_cons rfl (sub_cons rfl (sub_cons rfl (sub_cons rfl (sub_cons rfl (sub_cons rfl (sub_cons rfl (sub_cons rfl (sub_cons rfl (sub_cons rfl sub_nil)))))))))) (fun _ h => by try dsimp only; exact subC_st h)
            · try dsimp only
              unfold numR; rw [if_pos (by simpa using hc3)]
          · skip
            refine t_skip ?_
            refine n_cut (s) ?_ (sub_cons rfl sub_nil) (sub_cons rfl (sub_cons rfl (sub_cons rfl (sub_cons rfl (sub_cons rfl (sub_cons rfl (sub_cons rfl (sub_cons rfl (sub_cons rfl (sub_cons rfl sub_nil)))))))))) (fun _ h => by try dsimp only; exact subC_st h)
            · try dsimp only
              unfold numR; rw [if_neg (by simpa using hc3)]
        rintro r hr
        try dsimp only at *
        have hrl : r.length ≤ 1000000000 := by have := numR_le s; rw [hr]; omega
        refine t_seq ?_
        refine t_seq ?_
        refine t_qreg ?_
        refine s_q rfl rfl rfl (q_move rfl rfl) ?_
        refine s_q rfl rfl rfl (q_eql_str rfl rfl rfl) ?_
        refine s_q rfl rfl rfl (q_move rfl rfl) ?_
        refine s_or2 3 2 59 63 62 _ _ rfl rfl rfl rfl rfl rfl (fun h63 => by
            try simp at h63
            have hr0 : 0 < r.length := List.length_pos_iff.2 h63
            refine s_g rfl rfl rfl rfl rfl rfl (q_move rfl rfl) ?_
            refine s_g rfl rfl rfl rfl rfl rfl ((by first | exact q_index_strN rfl Tryd.underlying9 rfl rfl (by omega) | exact q_index_str rfl Tryd.underlying9 rfl rfl (by omega))) ?_
            refine s_g rfl rfl rfl rfl rfl rfl (q_lss rfl rfl rfl) ?_
            exact s_val rfl
          ) (wanted_n rfl) rfl rfl rfl ?_
        refine s_q rfl rfl rfl (q_move rfl rfl) ?_
        refine s_or2 3 7 64 68 67 _ _ rfl rfl rfl rfl rfl rfl (fun h68 => by
            try simp at h68
            have hr0 : 0 < r.length := List.length_pos_iff.2 h68.1
            refine s_g rfl rfl rfl rfl rfl rfl (q_move rfl rfl) ?_
            refine s_g rfl rfl rfl rfl rfl rfl ((by first | exact q_index_strN rfl Tryd.underlying9 rfl rfl (by omega) | exact q_index_str rfl Tryd.underlying9 rfl rfl (by omega))) ?_
            refine s_g rfl rfl rfl rfl rfl rfl (q_gtr rfl rfl rfl) ?_
            exact s_val rfl
          ) (wanted_n rfl) rfl rfl rfl ?_
        refine s_done ?_
        refine n_then ?_
        refine t_cond rfl (fun hc4 => ?_) (fun hc4 => ?_)
        · skip
          have hnb := num_bad hsx hsn hr hc4
          refine t_seq ?_
          refine t_region ?_
          refine l_e0 rfl rfl (e_storeS rfl ti2 rfl rfl (by first | exact ⟨rfl, rfl⟩ | assumption) rfl (by first | (simp only [List.set_cons_succ, List.set_cons_zero]; rfl) | rfl)) ?_
          rintro _ _ _ ⟨rfl, rfl⟩
          refine l_e0 rfl rfl (e_storeS rfl ti25 rfl rfl (by first | exact ⟨rfl, rfl⟩ | assumption) rfl (by first | (simp only [List.set_cons_succ, List.set_cons_zero]; rfl) | rfl)) ?_
          rintro _ _ _ ⟨rfl, rfl⟩
          refine l_nil ?_
          refine n_then ?_
          refine t_ret ?_
          refine n_ret_then ?_
          refine n_np_ret ?_
          refine n_retGM (bs := [bd]) (.inl rfl) rfl (by exact res_cell rfl Tryd.underlying2 rfl (by first | exact rd_rowI rfl | exact rd_imm (hb 1 _ rfl) | exact rd_imm ((hb.mono hJ18) 0 _ rfl) | exact rd_vrf (i := k) (j := 1) (hv.mono hJ18) hkl rfl) (res_cell rfl Tryd.underlying25 rfl (by first | exact rd_rowI rfl | exact rd_imm (hb 1 _ rfl) | exact rd_imm ((hb.mono hJ18) 0 _ rfl) | exact rd_vrf (i := k) (j := 1) (hv.mono hJ18) hkl rfl) (res_nil))) (fun w' hw => ?_)
          -- leaf 2
          refine ⟨?_, (hw.less hJ18).below⟩
          rw [hW, hnb]; rfl
        · skip
          obtain ⟨hrn, hng⟩ := num_go hsx hsn hr hc4
          refine t_skip ?_
          refine n_then ?_
          refine t_seq ?_
          refine t_region ?_
          refine l_q rfl rfl rfl (q_move rfl rfl) ?_
          refine l_q rfl rfl rfl (quiet_call rfl rfl rfl Tryd.func40 (by kernel_rfl) rfl ((fun w _ => literal_pure r w (by omega) hrn))) ?_
          refine l_q rfl rfl rfl (q_move rfl rfl) ?_
          refine l_q rfl rfl rfl (q_extract rfl rfl rfl) ?_
          refine l_q rfl rfl rfl (q_extract rfl rfl rfl) ?_
          refine l_q rfl rfl rfl (q_extract rfl rfl rfl) ?_
          refine l_q rfl rfl rfl (q_assign rfl rfl) ?_
          refine l_q rfl rfl rfl (q_assign rfl rfl) ?_
          refine l_q rfl rfl rfl (q_assign rfl rfl) ?_
          refine l_nil ?_
          refine n_then ?_
          refine t_seq ?_
          refine t_seq ?_
          refine t_qreg ?_
          refine s_q rfl rfl rfl (q_move rfl rfl) ?_
          refine s_q rfl rfl rfl (q_not rfl rfl) ?_
          refine s_q rfl rfl rfl (q_move rfl rfl) ?_
          refine s_or2 4 2 77 82 81 _ _ rfl rfl rfl rfl rfl rfl (fun h82 => by
              try simp at h82
              refine s_g rfl rfl rfl rfl rfl rfl (q_move rfl rfl) ?_
              refine s_g rfl rfl rfl rfl rfl rfl (q_move rfl rfl) ?_
              refine s_g rfl rfl rfl rfl rfl rfl (q_len_str rfl Tryd.underlying9 rfl) ?_
              refine s_g rfl rfl rfl rfl rfl rfl (q_neq rfl rfl rfl) ?_
              exact s_val rfl
            ) (wanted_n rfl) rfl rfl rfl ?_
          refine s_done ?_
          refine n_then ?_
          refine t_cond rfl (fun hc5 => ?_) (fun hc5 => ?_)
          · skip
            have hnf := num_fail hng hc5
            refine t_seq ?_
            refine t_region ?_
            refine l_e0 rfl rfl (e_storeS rfl ti2 rfl rfl (by first | exact ⟨rfl, rfl⟩ | assumption) rfl (by first | (simp only [List.set_cons_succ, List.set_cons_zero]; rfl) | rfl)) ?_
            rintro _ _ _ ⟨rfl, rfl⟩
            refine l_e0 rfl rfl (e_storeS rfl ti25 rfl rfl (by first | exact ⟨rfl, rfl⟩ | assumption) rfl (by first | (simp only [List.set_cons_succ, List.set_cons_zero]; rfl) | rfl)) ?_
            rintro _ _ _ ⟨rfl, rfl⟩
            refine l_nil ?_
            refine n_then ?_
            refine t_ret ?_
            refine n_ret_then ?_
            refine n_np_ret ?_
            refine n_retGM (bs := [bd]) (.inl rfl) rfl (by exact res_cell rfl Tryd.underlying2 rfl (by first | exact rd_rowI rfl | exact rd_imm (hb 1 _ rfl) | exact rd_imm ((hb.mono hJ18) 0 _ rfl) | exact rd_vrf (i := k) (j := 1) (hv.mono hJ18) hkl rfl) (res_cell rfl Tryd.underlying25 rfl (by first | exact rd_rowI rfl | exact rd_imm (hb 1 _ rfl) | exact rd_imm ((hb.mono hJ18) 0 _ rfl) | exact rd_vrf (i := k) (j := 1) (hv.mono hJ18) hkl rfl) (res_nil))) (fun w' hw => ?_)
            -- leaf 3
            refine ⟨?_, (hw.less hJ18).below⟩
            rw [hW, hnf]; rfl
          · skip
            have hnd := num_done hng hc5
            refine t_skip ?_
            refine n_then ?_
            refine t_cutE (ι := Int) (fun zz => zz = if nth s 0 0 = 45 then w64 (-(litV r).1) else (litV r).1) (fun zz => [(11, .int .i64 zz)]) [(9, _), (0, _), (1, _), (3, _), (4, _), (5, _), (18, _), (8, _), (34, _), (45, _), (10, _), (68, _), (12, _), (13, _), (82, _)] (fun zz => J18) (fun zz => (row b5 25 [.int .i64 0] :: row b4 2 [.int .i64 0] :: row b3 9 [str n] :: obj bd (.deferred (some [])) :: [])) (sub_cons rfl (sub_cons rfl (sub_cons rfl (sub_cons rfl (sub_cons rfl (sub_cons rfl (sub_cons rfl (sub_cons rfl (sub_cons rfl (sub_cons rfl (sub_cons rfl (sub_cons rfl (sub_cons rfl (sub_cons rfl (sub_cons rfl sub_nil))))))))))))))) ?_ ?_
            · skip
              refine t_seq ?_
              refine t_region ?_
              refine l_q rfl rfl rfl (q_move rfl rfl) ?_
              refine l_nil ?_
              refine n_then ?_
              refine t_cond rfl (fun hc6 => ?_) (fun hc6 => ?_)
              · skip
                refine t_region ?_
                refine l_q rfl rfl rfl (q_move rfl rfl) ?_
                refine l_q rfl rfl rfl (q_neg rfl rfl) ?_
                refine l_q rfl rfl rfl (q_assign rfl rfl) ?_
                refine l_nil ?_
                refine n_cut (w64 (-(litV r).1)) ?_ (sub_cons rfl sub_nil) (sub_cons rfl (sub_cons rfl (sub_cons rfl (sub_cons rfl (sub_cons rfl (sub_cons rfl (sub_cons rfl (sub_cons rfl (sub_cons rfl (sub_cons rfl (sub_cons rfl (sub_cons rfl (sub_cons rfl (sub_cons rfl (sub_cons rfl sub_nil))))))))))))))) (fun _ h => by try dsimp only; exact subC_st h)
                · try dsimp only
                  rw [if_pos (show nth s 0 0 = 45 from of_decide_eq_true hc6)]
              · skip
                refine t_skip ?_
                refine n_cut ((litV r).1) ?_ (sub_cons rfl sub_nil) (sub_cons rfl (sub_cons rfl (sub_cons rfl (sub_cons rfl (sub_cons rfl (sub_cons rfl (sub_cons rfl (sub_cons rfl (sub_cons rfl (sub_cons rfl (sub_cons rfl (sub_cons rfl (sub_cons rfl (sub_cons rfl (sub_cons rfl sub_nil))))))))))))))) (fun _ h => by try dsimp only; exact subC_st h)
                · try dsimp only
                  rw [if_neg (show ¬ nth s 0 0 = 45 from of_decide_eq_false hc6)]
            rintro z hz
            try dsimp only at *
            refine t_seq ?_
            refine t_region ?_
            refine l_q rfl rfl rfl (q_move rfl rfl) ?_
            refine l_e0 rfl rfl (e_storeS rfl ti2 rfl rfl (by first | exact ⟨rfl, rfl⟩ | assumption) rfl (by first | (simp only [List.set_cons_succ, List.set_cons_zero]; rfl) | rfl)) ?_
            rintro _ _ _ ⟨rfl, rfl⟩
            refine l_e0 rfl rfl (e_storeS rfl ti25 rfl rfl (by first | exact ⟨rfl, rfl⟩ | assumption) rfl (by first | (simp only [List.set_cons_succ, List.set_cons_zero]; rfl) | rfl)) ?_
            rintro _ _ _ ⟨rfl, rfl⟩
            refine l_nil ?_
            refine n_then ?_
            refine t_ret ?_
            refine n_np_ret ?_
            refine n_retGM (bs := [bd]) (.inl rfl) rfl (by exact res_cell rfl Tryd.underlying2 rfl (by first | exact rd_rowI rfl | exact rd_imm (hb 1 _ rfl) | exact rd_imm ((hb.mono hJ18) 0 _ rfl) | exact rd_vrf (i := k) (j := 1) (hv.mono hJ18) hkl rfl) (res_cell rfl Tryd.underlying25 rfl (by first | exact rd_rowI rfl | exact rd_imm (hb 1 _ rfl) | exact rd_imm ((hb.mono hJ18) 0 _ rfl) | exact rd_vrf (i := k) (j := 1) (hv.mono hJ18) hkl rfl) (res_nil))) (fun w' hw => ?_)
            -- leaf 4
            refine ⟨?_, (hw.less hJ18).below⟩
            rw [hW, hnd, ← hz]; rfl
  · skip
    intro bd cc a hex hle
    obtain ⟨rfl, hex⟩ := hex
    try dsimp only at *
    refine t_ret ?_
    refine n_ret_block ?_
    refine n_ret_then ?_
    refine n_np_ret ?_
    refine n_retGM (bs := [bd]) (.inl rfl) rfl (by exact res_cell rfl Tryd.underlying2 rfl (by first | exact rd_rowI rfl | exact rd_imm (hb 1 _ rfl) | exact rd_imm ((hb.mono hJ18) 0 _ rfl) | exact rd_vrf (i := k) (j := 1) (hv.mono hJ18) hkl rfl) (res_cell rfl Tryd.underlying25 rfl (by first | exact rd_rowI rfl | exact rd_imm (hb 1 _ rfl) | exact rd_imm ((hb.mono hJ18) 0 _ rfl) | exact rd_vrf (i := k) (j := 1) (hv.mono hJ18) hkl rfl) (res_nil))) (fun w' hw => ?_)
    -- leaf 5
    refine ⟨?_, (hw.less hJ18).below⟩
    rw [hex]; rfl
end Go.Tri
