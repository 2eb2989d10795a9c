/-
  A reader: its small steps.
-/
import Derived.Test.YtjdcefhllbfacaaDoorAA4
import Derived.Test.YtjdcefhllbfacaaDoorTriB17
namespace Go.Tri
open Go.Proofs Go.RowKit
/-- a reader's cells -/
def rdrC (lv : Value) (nw th : Lx) (e : Nat) : List Value := [lv, str nw.text, .int .i64 nw.worth, .int .i64 (nw.what : Int), str th.text, .int .i64 th.worth, .int .i64 (th.what : Int), .int .i64 (e : Int)]
def nilS : Value := .slice none 0 0
/-- an expression's cells -/
def exC (op nm : List UInt8) (n : Int) (kv : Value) : List Value := [str op, str nm, .int .i64 n, kv]
theorem exC_ones {op nm : List UInt8} {n : Int} {kv : Value} (h : One kv) : ∀ u ∈ exC op nm n kv, u.oneCell' = true := fun u hu => by
  simp only [exC, List.mem_cons, List.not_mem_nil, or_false] at hu
  rcases hu with rfl | rfl | rfl | rfl
  · rfl
  · rfl
  · rfl
  · exact h.2
theorem rds_lx {w0 : World} {I : Look} {H : List HA} {v : Value} {l : List Lx} (h : Sl I 3 v (l.map lxC)) {i : Nat} (hi : i < l.length) : Rds w0 I H (adr v).block ((adr v).off + i * 3) (lxC (nth l i lx0)) := h.rds (map_getD l lxC lx0 hi)
theorem isL_of {x : Lx} {t : List UInt8} : (decide ((x.what : Int) = 3) && decide (x.text = t)) = (decide (x.what = 3) && decide (x.text = t)) := by
  by_cases h : x.what = 3 <;> simp [h] <;> omega
theorem nth_any {α : Type} (l : List α) {d d2 : α} (h : 0 < l.length) : nth l 0 d = nth l 0 d2 := by rw [nth_eq h, nth_eq h]
def lvL : List (List UInt8) := [[32, 124, 124, 32], [32, 38, 38, 32], [32, 124, 32], [32, 94, 32], [32, 38, 32], [32, 61, 61, 32, 33, 61, 32], [32, 60, 32, 60, 61, 32, 62, 32, 62, 61, 32], [32, 60, 60, 32, 62, 62, 32], [32, 43, 32, 45, 32], [32, 42, 32, 47, 32, 37, 32]]
theorem lv_at {v : Nat} (h : v < 10) : lvS v = nth lvL v [] := by
  match v, h with
  | 0, _ => rfl
  | 1, _ => rfl
  | 2, _ => rfl
  | 3, _ => rfl
  | 4, _ => rfl
  | 5, _ => rfl
  | 6, _ => rfl
  | 7, _ => rfl
  | 8, _ => rfl
  | 9, _ => rfl
theorem rd_lv {w0 : World} {I : Look} {H : List HA} {b T : Nat} {k : Nat} (hm : row b T (lvL.map str) ∈ H) (hk : k < 10) : Rd w0 I H b (0 + k * 1) (str (nth lvL k [])) := by
  rw [Nat.zero_add, Nat.mul_one]
  refine rd_row hm ?_
  have h : k < lvL.length := hk
  rw [List.getElem?_map, List.getElem?_eq_getElem h, nth_eq h]; rfl
set_option maxRecDepth 10000 in
theorem step_calls (b : Nat) (lv : Value) (nw th : Lx) (e : Nat) (Ls : List Lx) (I : Look) (F : List HA) (w0 w : World) (hsl : Sl I 3 lv (Ls.map lxC)) (hw0 : St w0 I (row b 62 (rdrC lv nw th e) :: F) w) : Calls Tryd.prog 17 [pAt b].toArray w (fun e1 w' => ∃ v, e1 = .returned v ∧ ∃ I' H', (I = I' ∧ v = .tuple #[] ∧ ∃ lv', H' = row b 62 (rdrC lv' th (nth Ls 0 th) e) :: F ∧ Sl I 3 lv' ((Ls.drop 1).map lxC)) ∧ St w I' H' w') := by
  refine enter Tryd.func17 rfl Tryd.ntmps17 rfl (hw0.self) ?_
  refine t_seq ?_
  refine t_region ?_
  refine l_q rfl rfl rfl (q_move rfl rfl) ?_
  refine l_q rfl rfl rfl (q_move rfl rfl) ?_
  refine l_q rfl rfl rfl (q_nilCheck rfl rfl) ?_
  refine l_q rfl rfl rfl (q_fieldAddr rfl Tryd.underlying62 rfl rfl ti57 rfl rfl) ?_
  refine l_q rfl rfl rfl ((by first | exact q_load_rowA rfl Tryd.underlying57 ti57 rfl rfl rfl | exact q_load_agg rfl Tryd.underlying57 ti57 rfl rfl (rds_lx (i := 0) hsl (by omega)))) ?_
  refine l_q rfl rfl rfl (q_nilCheck rfl rfl) ?_
  refine l_q rfl rfl rfl (q_fieldAddr rfl Tryd.underlying62 rfl rfl ti57 rfl rfl) ?_
  refine l_e0 rfl rfl ((by first | exact e_store_all rfl ti57 rfl rfl rfl (by first | exact chC_ones _ | exact pcC_ones _ | exact lxC_ones _ | simp [Value.oneCell', str, u8]) rfl | exact e_store_agg rfl ti57 rfl rfl rfl (by first | exact chC_ones _ | exact pcC_ones _ | exact lxC_ones _ | simp [Value.oneCell', str, u8]) rfl)) ?_
  rintro _ _ _ ⟨rfl, rfl⟩
  refine l_heap (H' := row b 62 (rdrC lv th th e) :: F) ?_ (fun _ h => h)
  refine l_nil ?_
  refine n_then ?_
  refine t_seq ?_
  refine t_region ?_
  refine l_q rfl rfl rfl (q_move rfl rfl) ?_
  refine l_q rfl rfl rfl (q_nilCheck rfl rfl) ?_
  refine l_q rfl rfl rfl (q_fieldAddr rfl Tryd.underlying62 rfl rfl ti54 rfl rfl) ?_
  refine l_q rfl rfl rfl (q_load_row rfl Tryd.underlying54 rfl rfl (by rfl)) ?_
  refine l_q rfl rfl rfl ((by first | exact q_lenV rfl Tryd.underlying54 rfl | exact q_len rfl Tryd.underlying54 rfl (Sl.lenOf hsl (List.length_map _)))) ?_
  refine l_q rfl rfl rfl (q_gtr rfl rfl rfl) ?_
  refine l_nil ?_
  refine n_then ?_
  refine t_cond rfl (fun hc0 => ?_) (fun hc0 => ?_)
  · skip
    try simp at hc0
    have hl0 : 0 < Ls.length := by omega
    have hcut := Sl.dropM hsl rfl (show 1 ≤ Ls.length by omega)
    refine t_draw [15, 18] [] [] mo (by kernel_rfl) (fun _ _ _ _ _ h => h) ?_
    refine r_qf 0 (by kernel_rfl) rfl rfl rfl rfl (fun _ => q_move rfl rfl) ?_
    refine r_qf 1 (by kernel_rfl) rfl rfl rfl rfl (fun _ => q_move rfl rfl) ?_
    refine r_qf 2 (by kernel_rfl) rfl rfl rfl rfl (fun _ => q_move rfl rfl) ?_
    refine r_qf 3 (by kernel_rfl) rfl rfl rfl rfl (fun _ => q_nilCheck rfl rfl) ?_
    refine r_qf 4 (by kernel_rfl) rfl rfl rfl rfl (fun _ => q_fieldAddr rfl Tryd.underlying62 rfl rfl ti54 rfl rfl) ?_
    refine r_q1 5 (by kernel_rfl) rfl (Le.refl _) rfl rfl rfl (q_load_row rfl Tryd.underlying54 rfl rfl (by rfl)) ?_
    refine r_qf 6 (by kernel_rfl) rfl rfl rfl rfl (fun _ => (by first | exact q_indexAddrVN rfl Tryd.underlying54 ti57 rfl rfl (by omega) | exact q_indexAddrN rfl Tryd.underlying54 ti57 rfl rfl (Sl.shape hsl (List.length_map _)) (by omega) | exact q_indexAddrV rfl Tryd.underlying54 ti57 rfl rfl (by omega) | exact q_indexAddr rfl Tryd.underlying54 ti57 rfl rfl (Sl.shape hsl (List.length_map _)) (by omega))) ?_
    refine r_q1 7 (by kernel_rfl) rfl (Le.refl _) rfl rfl rfl ((by first | exact q_load_rowA rfl Tryd.underlying57 ti57 rfl rfl rfl | exact q_load_agg rfl Tryd.underlying57 ti57 rfl rfl (rds_lx (i := 0) hsl (by omega)))) ?_
    refine r_qf 8 (by kernel_rfl) rfl rfl rfl rfl (fun _ => q_move rfl rfl) ?_
    refine r_qf 9 (by kernel_rfl) rfl rfl rfl rfl (fun _ => q_nilCheck rfl rfl) ?_
    refine r_qf 10 (by kernel_rfl) rfl rfl rfl rfl (fun _ => q_fieldAddr rfl Tryd.underlying62 rfl rfl ti54 rfl rfl) ?_
    refine r_q1 11 (by kernel_rfl) rfl (Le.refl _) rfl rfl rfl (q_load_row rfl Tryd.underlying54 rfl rfl (by rfl)) ?_
    refine r_qf 12 (by kernel_rfl) rfl rfl rfl rfl (fun _ => (by first | exact q_slice_from rfl Tryd.underlying54 ti57 rfl rfl (Sl.lenOf hsl (List.length_map _)) (by omega))) ?_
    refine r_qf 13 (by kernel_rfl) rfl rfl rfl rfl (fun _ => q_nilCheck rfl rfl) ?_
    refine r_qf 14 (by kernel_rfl) rfl rfl rfl rfl (fun _ => q_fieldAddr rfl Tryd.underlying62 rfl rfl ti57 rfl rfl) ?_
    refine r_e0 15 (by kernel_rfl) (by kernel_rfl) rfl (Le.refl _) rfl rfl ((by first | exact e_store_all rfl ti57 rfl rfl rfl (by first | exact chC_ones _ | exact pcC_ones _ | exact lxC_ones _ | simp [Value.oneCell', str, u8]) rfl | exact e_store_agg rfl ti57 rfl rfl rfl (by first | exact chC_ones _ | exact pcC_ones _ | exact lxC_ones _ | simp [Value.oneCell', str, u8]) rfl)) ?_
    rintro _ _ _ ⟨rfl, rfl⟩
    refine ⟨Le.refl _, .inr SubC.sub, ?_⟩
    refine r_heap (H' := row b 62 (rdrC lv th (nth Ls 0 lx0) e) :: F) ?_ (fun _ h => h)
    refine r_qf 16 (by kernel_rfl) rfl rfl rfl rfl (fun _ => q_nilCheck rfl rfl) ?_
    refine r_qf 17 (by kernel_rfl) rfl rfl rfl rfl (fun _ => q_fieldAddr rfl Tryd.underlying62 rfl rfl ti54 rfl rfl) ?_
    refine r_e0 18 (by kernel_rfl) (by kernel_rfl) rfl (Le.refl _) rfl rfl (e_storeS rfl ti54 rfl rfl (by first | exact ⟨rfl, rfl⟩ | assumption | exact (Sl.dropM hsl rfl (by omega)).one) rfl (by first | (simp only [List.set_cons_succ, List.set_cons_zero]; rfl) | rfl)) ?_
    rintro _ _ _ ⟨rfl, rfl⟩
    refine ⟨Le.refl _, .inr SubC.sub, ?_⟩
    refine r_heap (H' := row b 62 (rdrC (cutV 3 1 Ls.length lv) th (nth Ls 0 lx0) e) :: F) ?_ (fun _ h => h)
    refine r_end (by kernel_rfl) ?_
    refine n_end0 rfl (fun w' hw => ?_)
    -- leaf 0
    refine ⟨_, rfl, I, _, ⟨rfl, rfl, cutV 3 1 Ls.length lv, ?_, hcut⟩, hw⟩
    rw [nth_any Ls (d := th) (d2 := lx0) hl0]
  · skip
    try simp at hc0
    have hl0 : Ls = [] := by simpa using hc0
    subst hl0
    refine t_skip ?_
    refine n_end0 rfl (fun w' hw => ?_)
    -- leaf 1
    exact ⟨_, rfl, I, _, ⟨rfl, rfl, lv, rfl, hsl⟩, hw⟩
set_option maxRecDepth 10000 in
theorem fail_calls (b : Nat) (lv : Value) (nw th : Lx) (k : Nat) (I : Look) (F : List HA) (w0 w : World) (hw0 : St w0 I (row b 62 (rdrC lv nw th 0) :: F) w) : Calls Tryd.prog 19 [pAt b, .int .i64 (k : Int)].toArray w (fun e1 w' => ∃ v, e1 = .returned v ∧ ∃ I' H', (I = I' ∧ ∃ q, v = pAt q ∧ H' = row b 62 (rdrC lv nw th k) :: F) ∧ St w I' H' w') := by
  refine enter Tryd.func19 rfl Tryd.ntmps19 rfl (hw0.self) ?_
  refine t_seq ?_
  refine t_region ?_
  refine l_q rfl rfl rfl (q_assign rfl rfl) ?_
  refine l_nil ?_
  refine n_then ?_
  refine t_seq ?_
  refine t_seq ?_
  refine t_region ?_
  refine l_q rfl rfl rfl (q_move rfl rfl) ?_
  refine l_q rfl rfl rfl (q_nilCheck rfl rfl) ?_
  refine l_q rfl rfl rfl (q_fieldAddr rfl Tryd.underlying62 rfl rfl ti25 rfl rfl) ?_
  refine l_q rfl rfl rfl (q_load_row rfl Tryd.underlying25 rfl rfl (by rfl)) ?_
  refine l_q rfl rfl rfl (q_eql rfl rfl rfl) ?_
  refine l_nil ?_
  refine n_then ?_
  refine t_cond rfl (fun hc0 => ?_) (fun hc0 => ?_)
  · skip
    try simp at hc0
    refine t_region ?_
    refine l_q rfl rfl rfl (q_move rfl rfl) ?_
    refine l_q rfl rfl rfl (q_move rfl rfl) ?_
    refine l_q rfl rfl rfl (q_nilCheck rfl rfl) ?_
    refine l_q rfl rfl rfl (q_fieldAddr rfl Tryd.underlying62 rfl rfl ti25 rfl rfl) ?_
    refine l_e0 rfl rfl (e_storeS rfl ti25 rfl rfl (by first | exact ⟨rfl, rfl⟩ | assumption) rfl (by first | (simp only [List.set_cons_succ, List.set_cons_zero]; rfl) | rfl)) ?_
    rintro _ _ _ ⟨rfl, rfl⟩
    refine l_heap (H' := row b 62 (rdrC lv nw th k) :: F) ?_ (fun _ h => h)
    refine l_nil ?_
    refine n_then ?_
    refine t_seq ?_
    refine t_region ?_
    refine l_q rfl rfl rfl (q_build (pl := [(_, _), (_, _), (_, _), (_, _)]) (cs := (exC [] [] 0 nilS).toArray) rfl Tryd.underlying52 ti52 ⟨rfl, ⟨_, _, ti9⟩, rfl, ⟨_, _, ti9⟩, rfl, ⟨_, _, ti2⟩, rfl, ⟨_, _, ti50⟩, trivial⟩ rfl rfl) ?_
    refine l_e rfl rfl rfl (e_box rfl rfl rfl) ?_
    rintro _ _ _ ⟨b15, rfl, rfl, rfl⟩
    refine l_q rfl rfl rfl (q_assign rfl rfl) ?_
    refine l_nil ?_
    refine n_then ?_
    refine t_ret ?_
    refine n_ret1 rfl rfl (fun w' hw => ?_)
    -- leaf 0
    exact ⟨_, rfl, I, _, ⟨rfl, b15, rfl, rfl⟩, subC_st hw⟩
  · skip
    try simp at hc0
set_option maxRecDepth 10000 in
theorem is_pure (b : Nat) (lv : Value) (nw th : Lx) (e : Nat) (t : List UInt8) (w : World) (hb : RowI (look w) b (rdrC lv nw th e)) : Pure Tryd.prog 49 [pAt b, str t] w (.bool (decide (nw.what = 3) && decide (nw.text = t))) := by
  refine enter Tryd.func49 rfl Tryd.ntmps49 rfl (St.start w (look w) (Le.refl _)) ?_
  refine t_seq ?_
  refine t_region ?_
  refine l_q rfl rfl rfl (q_assign rfl rfl) ?_
  refine l_nil ?_
  refine n_then ?_
  refine t_seq ?_
  refine t_qreg ?_
  refine s_q rfl rfl rfl (q_move rfl rfl) ?_
  refine s_q rfl rfl rfl (q_nilCheck rfl rfl) ?_
  refine s_q rfl rfl rfl (q_fieldAddr rfl Tryd.underlying62 rfl rfl ti57 rfl rfl) ?_
  refine s_q rfl rfl rfl (q_fieldAddr rfl Tryd.underlying57 rfl rfl ti3 rfl rfl) ?_
  refine s_q rfl rfl rfl ((by first | exact q_load_row rfl Tryd.underlying3 rfl rfl (by rfl) | exact q_load rfl Tryd.underlying3 rfl rfl (rd_imm (hb 3 _ rfl)) | exact q_load rfl Tryd.underlying3 rfl rfl (rd_imm (hb 1 _ rfl)))) ?_
  refine s_q rfl rfl rfl (q_eql rfl rfl rfl) ?_
  refine s_q rfl rfl rfl (q_move rfl rfl) ?_
  refine s_and2 7 6 11 19 18 _ _ rfl rfl rfl rfl rfl rfl (fun h19 => by
      try simp at h19
      refine s_g rfl rfl rfl rfl rfl rfl (q_move rfl rfl) ?_
      refine s_g rfl rfl rfl rfl rfl rfl (q_nilCheck rfl rfl) ?_
      refine s_g rfl rfl rfl rfl rfl rfl (q_fieldAddr rfl Tryd.underlying62 rfl rfl ti57 rfl rfl) ?_
      refine s_g rfl rfl rfl rfl rfl rfl (q_fieldAddr rfl Tryd.underlying57 rfl rfl ti9 rfl rfl) ?_
      refine s_g rfl rfl rfl rfl rfl rfl ((by first | exact q_load_row rfl Tryd.underlying9 rfl rfl (by rfl) | exact q_load rfl Tryd.underlying9 rfl rfl (rd_imm (hb 3 _ rfl)) | exact q_load rfl Tryd.underlying9 rfl rfl (rd_imm (hb 1 _ rfl)))) ?_
      refine s_g rfl rfl rfl rfl rfl rfl (q_move rfl rfl) ?_
      refine s_g rfl rfl rfl rfl rfl rfl (q_eql_str rfl rfl rfl) ?_
      exact s_val rfl
    ) (wanted_n rfl) rfl rfl rfl ?_
  refine s_q rfl rfl rfl (q_assign rfl rfl) ?_
  refine s_done ?_
  refine n_then ?_
  refine t_ret ?_
  refine n_ret1 rfl rfl (fun w' hw => ?_)
  -- leaf 0
  refine ⟨?_, hw.below⟩
  rw [← isL_of]
set_option maxRecDepth 10000 in
theorem levels_pure (v : Nat) (w : World) (hv : v < 10) : Pure Tryd.prog 59 [.int .i64 (v : Int)] w (str (lvS v)) := by
  refine enter Tryd.func59 rfl Tryd.ntmps59 rfl (St.start w (look w) (Le.refl _)) ?_
  refine t_seq ?_
  refine t_region ?_
  refine l_q rfl rfl rfl (q_assign rfl rfl) ?_
  refine l_nil ?_
  refine n_then ?_
  refine t_seq ?_
  refine t_region ?_
  refine l_e rfl rfl rfl (e_buildSliceN (vs := [_, _, _, _, _, _, _, _, _, _]) (css := [[str [32, 124, 124, 32]], [str [32, 38, 38, 32]], [str [32, 124, 32]], [str [32, 94, 32]], [str [32, 38, 32]], [str [32, 61, 61, 32, 33, 61, 32]], [str [32, 60, 32, 60, 61, 32, 62, 32, 62, 61, 32]], [str [32, 60, 60, 32, 62, 62, 32]], [str [32, 43, 32, 45, 32]], [str [32, 42, 32, 47, 32, 37, 32]]]) rfl Tryd.underlying104 ti9 rfl rfl rfl rfl (rfl) (by simp [pcC, chC])) ?_
  rintro _ _ _ ⟨b3, rfl, rfl, rfl⟩
  refine l_heap (H' := row b3 9 (lvL.map str) :: []) ?_ (fun _ h => h)
  refine l_q rfl rfl rfl (q_move rfl rfl) ?_
  refine l_q rfl rfl rfl ((by first | exact q_indexAddrVN rfl Tryd.underlying104 ti9 rfl rfl (by omega) | exact q_indexAddrN rfl Tryd.underlying104 ti9 rfl rfl (⟨_, _, rfl, fun _ _ h => by cases h; rfl, fun _ h => by cases h⟩) (by omega) | exact q_indexAddrV rfl Tryd.underlying104 ti9 rfl rfl (by omega) | exact q_indexAddr rfl Tryd.underlying104 ti9 rfl rfl (⟨_, _, rfl, fun _ _ h => by cases h; rfl, fun _ h => by cases h⟩) (by omega))) ?_
  refine l_q rfl rfl rfl ((by first | exact q_load_row rfl Tryd.underlying9 rfl rfl (by rfl) | exact q_load rfl Tryd.underlying9 rfl rfl (rd_lv (b := b3) (T := 9) (k := v) (List.mem_cons_self) hv))) ?_
  refine l_q rfl rfl rfl (q_assign rfl rfl) ?_
  refine l_nil ?_
  refine n_then ?_
  refine t_ret ?_
  refine n_ret1 rfl rfl (fun w' hw => ?_)
  -- leaf 0
  refine ⟨?_, hw.below⟩
  rw [lv_at hv]
end Go.Tri
