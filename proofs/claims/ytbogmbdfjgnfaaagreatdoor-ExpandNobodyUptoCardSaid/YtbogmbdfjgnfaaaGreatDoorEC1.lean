/-
  A list of variables: what stands there.
-/
import Derived.Test.YtbogmbdfjgnfaaaGreatDoorEB8
import Derived.Test.YtbogmbdfjgnfaaaGreatDoorPAr2
namespace Go.Tri
open Go.Proofs Go.RowKit
/-- where a variable stands -/
def FindV (l : List Vr) (n : List UInt8) (r : Int) : Prop := (∃ i : Nat, r = i ∧ i < l.length ∧ (nth l i vr0).name = n ∧ ∀ k, k < i → (nth l k vr0).name ≠ n) ∨ (r = -1 ∧ ∀ k, k < l.length → (nth l k vr0).name ≠ n)
theorem FindV.hit {l : List Vr} {n : List UInt8} {r : Int} {i : Nat} (h : FindV l n r) (hi : i < l.length) (hn : (nth l i vr0).name = n) (hno : ∀ k, k < i → (nth l k vr0).name ≠ n) : r = i := by
  rcases h with ⟨j, rfl, h1, h2, h3⟩ | ⟨_, h2⟩
  · rcases Nat.lt_trichotomy i j with h | h | h
    · exact absurd hn (h3 i h)
    · rw [h]
    · exact absurd h2 (hno j h)
  · exact absurd hn (h2 i hi)
theorem FindV.miss {l : List Vr} {n : List UInt8} {r : Int} (h : FindV l n r) (hno : ∀ k, k < l.length → (nth l k vr0).name ≠ n) : r = -1 := by
  rcases h with ⟨j, rfl, h1, h2, h3⟩ | ⟨h1, _⟩
  · exact absurd h2 (hno j h1)
  · exact h1
theorem findV_nil (n : List UInt8) : FindV [] n (-1) := .inr ⟨rfl, fun _ h => absurd h (Nat.not_lt_zero _)⟩
/-- a variable as it is -/
def AtV (l : List Vr) (n : List UInt8) (x : Vr) : Prop := ∃ r, FindV l n r ∧ x = if 0 ≤ r then nth l r.toNat vr0 else ⟨n, [], false, false, true⟩
theorem vrC_ones (x : Vr) : ∀ u ∈ vrC x, u.oneCell' = true := fun u hu => by
  simp only [vrC, List.mem_cons, List.not_mem_nil, or_false] at hu
  rcases hu with rfl | rfl | rfl | rfl | rfl <;> rfl
theorem one_nilV : One nilV := ⟨rfl, rfl⟩
theorem Rowed.mono {w w' : World} {b : Nat} {cs : List Value} (h : Rowed w b cs) (hle : Le (look w) (look w')) : Rowed w' b cs := fun k u hk => (h k u hk).mono hle
set_option maxRecDepth 10000 in
theorem find_pure (b : Nat) (l : List Vr) (lv av : Value) (w : World) (hn : l.length ≤ 1000) (hb : Rowed w b [lv, av]) (hl : Sl (look w) 5 lv (l.map vrC)) (n : List UInt8) (r : Int) (hr : FindV l n r) : Pure Tryz.prog 47 [.pointer (some ⟨b, 0, none⟩), str n] w (.int .i64 r) := by
  refine enter Tryz.func47 rfl Tryz.ntmps47 rfl (St.start w (look w) (Le.refl _)) ?_
  refine t_seq ?_
  refine t_region ?_
  refine l_q rfl rfl rfl (q_assign rfl rfl) ?_
  refine l_nil ?_
  refine n_then ?_
  refine t_seq ?_
  refine t_seq ?_
  refine t_region ?_
  refine l_q rfl rfl rfl (q_assign rfl rfl) ?_
  refine l_nil ?_
  refine n_then ?_
  refine t_block ?_
  refine t_loopE (ι := Nat) (fun zz => zz ≤ l.length ∧ ∀ k, k < zz → (nth l k vr0).name ≠ n) (fun zz => l.length - zz) (fun zz => [(5, .int .i64 (zz : Int))]) [(0, _), (1, _)] (fun zz => look w) (fun zz => []) 0 ?_ (sub_cons rfl sub_nil) (sub_cons rfl (sub_cons rfl sub_nil)) (fun _ h => subC_st h) ?_
  · try dsimp only
    exact ⟨Nat.zero_le _, fun k h => absurd h (Nat.not_lt_zero _)⟩
  rintro i ⟨hi, hno⟩
  try dsimp only at *
  refine t_seq ?_
  refine t_seq ?_
  refine t_region ?_
  refine l_q rfl rfl rfl (q_move rfl rfl) ?_
  refine l_q rfl rfl rfl (q_move rfl rfl) ?_
  refine l_q rfl rfl rfl (q_nilCheck rfl rfl) ?_
  refine l_q rfl rfl rfl (q_fieldAddr rfl Tryz.underlying65 rfl rfl ti23 rfl rfl) ?_
  refine l_q rfl rfl rfl ((by first | exact q_load_row rfl Tryz.underlying23 rfl rfl (by rfl) | exact q_load rfl Tryz.underlying23 rfl rfl (rd_imm (hb 0 _ rfl)) | exact q_load rfl Tryz.underlying23 rfl rfl (rd_vrf (i := i) (j := 0) hl (by omega) rfl))) ?_
  refine l_q rfl rfl rfl ((by first | exact q_lenV rfl Tryz.underlying23 rfl | exact q_len rfl Tryz.underlying23 rfl (Sl.lenOf hl (List.length_map _)))) ?_
  refine l_q rfl rfl rfl (q_lss rfl rfl rfl) ?_
  refine l_nil ?_
  refine n_then ?_
  refine t_cond rfl (fun hc0 => ?_) (fun hc0 => ?_)
  · skip
    try simp at hc0
    have hil : i < l.length := by omega
    refine t_skip ?_
    refine n_then ?_
    refine t_seq ?_
    refine t_block ?_
    refine t_seq ?_
    refine t_region ?_
    refine l_q rfl rfl rfl (q_move rfl rfl) ?_
    refine l_q rfl rfl rfl (q_nilCheck rfl rfl) ?_
    refine l_q rfl rfl rfl (q_fieldAddr rfl Tryz.underlying65 rfl rfl ti23 rfl rfl) ?_
    refine l_q rfl rfl rfl ((by first | exact q_load_row rfl Tryz.underlying23 rfl rfl (by rfl) | exact q_load rfl Tryz.underlying23 rfl rfl (rd_imm (hb 0 _ rfl)) | exact q_load rfl Tryz.underlying23 rfl rfl (rd_vrf (i := i) (j := 0) hl (by omega) rfl))) ?_
    refine l_q rfl rfl rfl (q_move rfl rfl) ?_
    refine l_q rfl rfl rfl ((by first | exact q_indexAddrVN rfl Tryz.underlying23 ti28 rfl rfl (by omega) | exact q_indexAddrN rfl Tryz.underlying23 ti28 rfl rfl (Sl.shape hl (List.length_map _)) (by omega) | exact q_indexAddrV rfl Tryz.underlying23 ti28 rfl rfl (by omega) | exact q_indexAddr rfl Tryz.underlying23 ti28 rfl rfl (Sl.shape hl (List.length_map _)) (by omega))) ?_
    refine l_q rfl rfl rfl (q_fieldAddr rfl Tryz.underlying28 rfl rfl ti9 rfl rfl) ?_
    refine l_q rfl rfl rfl ((by first | exact q_load_row rfl Tryz.underlying9 rfl rfl (by rfl) | exact q_load rfl Tryz.underlying9 rfl rfl (rd_imm (hb 0 _ rfl)) | exact q_load rfl Tryz.underlying9 rfl rfl (rd_vrf (i := i) (j := 0) hl (by omega) rfl))) ?_
    refine l_q rfl rfl rfl (q_move rfl rfl) ?_
    refine l_q rfl rfl rfl (q_eql_str rfl rfl rfl) ?_
    refine l_nil ?_
    refine n_then ?_
    refine t_cond rfl (fun hc1 => ?_) (fun hc1 => ?_)
    · skip
      simp only [decide_eq_true_eq, decide_eq_false_iff_not] at hc1
      have h := hr.hit hil hc1 hno
      refine t_seq ?_
      refine t_region ?_
      refine l_q rfl rfl rfl (q_move rfl rfl) ?_
      refine l_q rfl rfl rfl (q_assign rfl rfl) ?_
      refine l_nil ?_
      refine n_then ?_
      refine t_ret ?_
      refine n_ret_block ?_
      refine n_ret_then ?_
      refine n_ret_then ?_
      refine n_ret_block ?_
      refine n_ret_then ?_
      refine n_ret1 rfl rfl (fun w' hw => ?_)
      -- leaf 0
      refine ⟨?_, hw.below⟩
      rw [h]
    · skip
      simp only [decide_eq_true_eq, decide_eq_false_iff_not] at hc1
      have hc1 : (nth l i vr0).name ≠ n := hc1
      refine t_skip ?_
      refine n_block ?_
      refine n_then ?_
      refine t_region ?_
      refine l_q rfl rfl rfl (q_move rfl rfl) ?_
      refine l_q rfl rfl rfl (q_add64 rfl rfl rfl (by omega)) ?_
      refine l_q rfl rfl rfl (q_assign rfl rfl) ?_
      refine l_nil ?_
      refine n_roundE (i + 1) ?_ ?_ (sub_cons rfl sub_nil) (sub_cons rfl (sub_cons rfl sub_nil)) (fun _ h => by try dsimp only; exact subC_st h)
      · try dsimp only
        refine ⟨by omega, fun k hk => ?_⟩
        rcases Nat.lt_succ_iff_lt_or_eq.1 hk with h | rfl
        · exact hno k h
        · exact hc1
      · try dsimp only
        show l.length - (i + 1) < l.length - i
        omega
  · skip
    try simp at hc0
    have h := hr.miss (fun k hk => hno k (by omega))
    refine t_exit ?_
    refine n_exit_then ?_
    refine n_exit_then ?_
    refine n_exit_block ?_
    refine n_then ?_
    refine t_seq ?_
    refine t_region ?_
    refine l_q rfl rfl rfl (q_assign rfl rfl) ?_
    refine l_nil ?_
    refine n_then ?_
    refine t_ret ?_
    refine n_ret1 rfl rfl (fun w' hw => ?_)
    -- leaf 1
    refine ⟨?_, hw.below⟩
    rw [h]
set_option maxRecDepth 10000 in
theorem at_pure (b : Nat) (l : List Vr) (lv av : Value) (w : World) (hn : l.length ≤ 1000) (hb : Rowed w b [lv, av]) (hl : Sl (look w) 5 lv (l.map vrC)) (n : List UInt8) (x : Vr) (hx : AtV l n x) : Pure Tryz.prog 45 [.pointer (some ⟨b, 0, none⟩), str n] w (.agg (vrC x).toArray) := by
  obtain ⟨r, hr, hx⟩ := hx
  refine enter Tryz.func45 rfl Tryz.ntmps45 rfl (St.start w (look w) (Le.refl _)) ?_
  refine t_seq ?_
  refine t_region ?_
  refine l_e rfl rfl rfl (e_alloc rfl ti28 rfl) ?_
  rintro _ _ _ ⟨b4, rfl, rfl, rfl⟩
  refine l_nil ?_
  refine n_then ?_
  refine t_seq ?_
  refine t_seq ?_
  refine t_region ?_
  refine l_q rfl rfl rfl (q_move rfl rfl) ?_
  refine l_q rfl rfl rfl (q_move rfl rfl) ?_
  refine l_q rfl rfl rfl (quiet_call rfl rfl rfl Tryz.func47 (by kernel_rfl) rfl ((fun w hw => find_pure b l lv av w hn (hb.mono hw.le) (hl.mono hw.le) n r hr))) ?_
  refine l_q rfl rfl rfl (q_assign rfl rfl) ?_
  refine l_nil ?_
  refine n_then ?_
  refine t_seq ?_
  refine t_region ?_
  refine l_q rfl rfl rfl (q_move rfl rfl) ?_
  refine l_q rfl rfl rfl (q_geq rfl rfl rfl) ?_
  refine l_nil ?_
  refine n_then ?_
  refine t_cond rfl (fun hc0 => ?_) (fun hc0 => ?_)
  · skip
    try simp at hc0
    have hrl : r.toNat < l.length := by
      rcases hr with ⟨i, rfl, h, _⟩ | ⟨rfl, _⟩
      · omega
      · omega
    rw [if_pos (by omega)] at hx
    refine t_seq ?_
    refine t_region ?_
    refine l_q rfl rfl rfl (q_move rfl rfl) ?_
    refine l_q rfl rfl rfl (q_nilCheck rfl rfl) ?_
    refine l_q rfl rfl rfl (q_fieldAddr rfl Tryz.underlying65 rfl rfl ti23 rfl rfl) ?_
    refine l_q rfl rfl rfl ((by first | exact q_load_row rfl Tryz.underlying23 rfl rfl (by rfl) | exact q_load rfl Tryz.underlying23 rfl rfl (rd_imm (hb 0 _ rfl)))) ?_
    refine l_q rfl rfl rfl (q_move rfl rfl) ?_
    refine l_q rfl rfl rfl ((by first | exact q_indexAddrVN rfl Tryz.underlying23 ti28 rfl rfl (by omega) | exact q_indexAddrN rfl Tryz.underlying23 ti28 rfl rfl (Sl.shape hl (List.length_map _)) (by omega) | exact q_indexAddrV rfl Tryz.underlying23 ti28 rfl rfl (by omega) | exact q_indexAddr rfl Tryz.underlying23 ti28 rfl rfl (Sl.shape hl (List.length_map _)) (by omega))) ?_
    refine l_q rfl rfl rfl ((by first | exact q_load_rowA rfl Tryz.underlying28 ti28 rfl rfl rfl | exact q_load_agg rfl Tryz.underlying28 ti28 rfl rfl (rds_vr (i := r.toNat) hl (by omega)))) ?_
    refine l_e0 rfl rfl ((by first | exact e_store_all rfl ti28 rfl rfl rfl (by first | exact chC_ones _ | exact pcC_ones _ | exact vrC_ones _ | exact vrC_ones ⟨n, [], false, false, true⟩ | simp [Value.oneCell', str, u8]) rfl | exact e_store_agg rfl ti28 rfl rfl rfl (by first | exact chC_ones _ | exact pcC_ones _ | exact vrC_ones _ | exact vrC_ones ⟨n, [], false, false, true⟩ | simp [Value.oneCell', str, u8]) rfl)) ?_
    rintro _ _ _ ⟨rfl, rfl⟩
    refine l_nil ?_
    refine n_then ?_
    refine t_ret ?_
    refine n_ret_then ?_
    refine n_retGG (.inl rfl) rfl (by exact rg_row rfl Tryz.underlying28 ti28 rfl rfl (rg_nil)) (fun w' hw => ?_)
    -- leaf 0
    refine ⟨?_, hw.below⟩
    rw [hx]; rfl
  · skip
    try simp at hc0
    rw [if_neg (by omega)] at hx
    refine t_skip ?_
    refine n_then ?_
    refine t_seq ?_
    refine t_region ?_
    refine l_q rfl rfl rfl (q_move rfl rfl) ?_
    refine l_q rfl rfl rfl (q_build (pl := [(_, _), (_, _), (_, _), (_, _), (_, _)]) (cs := #[_, _, _, _, _]) rfl Tryz.underlying28 ti28 ⟨rfl, ⟨_, _, ti9⟩, rfl, ⟨_, _, ti9⟩, rfl, ⟨_, _, ti4⟩, rfl, ⟨_, _, ti4⟩, rfl, ⟨_, _, ti4⟩, trivial⟩ rfl rfl) ?_
    refine l_e0 rfl rfl ((by first | exact e_store_all rfl ti28 rfl rfl rfl (by first | exact chC_ones _ | exact pcC_ones _ | exact vrC_ones _ | exact vrC_ones ⟨n, [], false, false, true⟩ | simp [Value.oneCell', str, u8]) rfl | exact e_store_agg rfl ti28 rfl rfl rfl (by first | exact chC_ones _ | exact pcC_ones _ | exact vrC_ones _ | exact vrC_ones ⟨n, [], false, false, true⟩ | simp [Value.oneCell', str, u8]) rfl)) ?_
    rintro _ _ _ ⟨rfl, rfl⟩
    refine l_nil ?_
    refine n_then ?_
    refine t_ret ?_
    refine n_retGG (.inl rfl) rfl (by exact rg_row rfl Tryz.underlying28 ti28 rfl rfl (rg_nil)) (fun w' hw => ?_)
    -- leaf 1
    refine ⟨?_, hw.below⟩
    rw [hx]; rfl
set_option maxRecDepth 10000 in
theorem get_pure (b : Nat) (l : List Vr) (lv av : Value) (w : World) (hn : l.length ≤ 1000) (hb : Rowed w b [lv, av]) (hl : Sl (look w) 5 lv (l.map vrC)) (n : List UInt8) (x : Vr) (hx : AtV l n x) : Pure Tryz.prog 217 [.pointer (some ⟨b, 0, none⟩), str n] w (.tuple #[str x.value, .bool (!x.u)]) := by
  refine enter Tryz.func217 rfl Tryz.ntmps217 rfl (St.start w (look w) (Le.refl _)) ?_
  refine t_seq ?_
  refine t_region ?_
  refine l_q rfl rfl rfl (q_assign rfl rfl) ?_
  refine l_q rfl rfl rfl (q_assign rfl rfl) ?_
  refine l_nil ?_
  refine n_then ?_
  refine t_seq ?_
  refine t_region ?_
  refine l_q rfl rfl rfl (q_move rfl rfl) ?_
  refine l_q rfl rfl rfl (q_move rfl rfl) ?_
  refine l_q rfl rfl rfl (quiet_call rfl rfl rfl Tryz.func45 (by kernel_rfl) rfl ((fun w hw => at_pure b l lv av w hn (hb.mono hw.le) (hl.mono hw.le) n x hx))) ?_
  refine l_e rfl rfl rfl (e_alloc rfl ti28 rfl) ?_
  rintro _ _ _ ⟨b6, rfl, rfl, rfl⟩
  refine l_e0 rfl rfl ((by first | exact e_store_all rfl ti28 rfl rfl rfl (by first | exact chC_ones _ | exact pcC_ones _ | exact vrC_ones _ | simp [Value.oneCell', str, u8]) rfl | exact e_store_agg rfl ti28 rfl rfl rfl (by first | exact chC_ones _ | exact pcC_ones _ | exact vrC_ones _ | simp [Value.oneCell', str, u8]) rfl)) ?_
  rintro _ _ _ ⟨rfl, rfl⟩
  refine l_nil ?_
  refine n_then ?_
  refine t_seq ?_
  refine t_qdraw mo (by kernel_rfl) (fun _ _ _ _ _ h => h) ?_
  refine s_q rfl rfl rfl (q_fieldAddr rfl Tryz.underlying28 rfl rfl ti9 rfl rfl) ?_
  refine s_q rfl rfl rfl (q_load_row rfl Tryz.underlying9 rfl rfl (by rfl)) ?_
  refine s_q rfl rfl rfl (q_fieldAddr rfl Tryz.underlying28 rfl rfl ti4 rfl rfl) ?_
  refine s_q rfl rfl rfl (q_load_row rfl Tryz.underlying4 rfl rfl (by rfl)) ?_
  refine s_q rfl rfl rfl (q_not rfl rfl) ?_
  refine s_q rfl rfl rfl (q_assign rfl rfl) ?_
  refine s_q rfl rfl rfl (q_assign rfl rfl) ?_
  refine s_done ?_
  refine n_then ?_
  refine t_ret ?_
  refine n_ret2 rfl rfl rfl (fun w' hw => ?_)
  -- leaf 0
  refine ⟨?_, hw.below⟩
  rfl
end Go.Tri
