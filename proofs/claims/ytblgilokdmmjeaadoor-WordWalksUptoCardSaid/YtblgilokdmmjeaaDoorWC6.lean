/-
  Parts handed on one by one.
-/
import Derived.Test.YtblgilokdmmjeaaDoorWC1
import Derived.Test.YtblgilokdmmjeaaDoorPWord6
namespace Go.Tri
open Go.Proofs Go.RowKit
/-- a part handed on -/
def pC (x : PE) : List Value := [.agg (partC x).toArray]
/-- walk over v hands on E -/
def WalkOk (v : Value) (E : List PE) (I0 : Look) : Prop := ∀ (γ : Type) (Cd Cx : Nat → γ → Prop) (G : γ → List HA) (II : γ → Look) (lid : Nat) (xs : List (List Value)), Yields Tryd.prog lid Cd Cx G II xs →
  ∀ (i : Nat) (g0 : γ) (F : List HA) (w0 w : World), Cd i g0 → Le I0 (II g0) → (∀ k, k < E.length → xs[i + k]? = some (pC (nth E k pe0))) → St w0 (II g0) (F ++ G g0) w →
    Calls Tryd.prog 19 [v, .func (.yield lid) #[] #[]].toArray w (fun e w' => ∃ v1, e = .returned v1 ∧ ∃ I' H', (∃ bb g', v1 = .bool bb ∧ I' = II g' ∧ H' = F ++ G g' ∧ Le (II g0) (II g') ∧ (bb = true → Cd (i + E.length) g') ∧ (bb = false → ∃ k, k ≤ i + E.length ∧ Cx k g')) ∧ St w I' H' w')
theorem pC_at {l : List PE} {n : Nat} {vs : List Value} (h : (l.map pC)[n]? = some vs) : n < l.length ∧ vs = pC (nth l n pe0) := by
  obtain ⟨hlt, hx⟩ := List.getElem?_eq_some_iff.1 h
  rw [List.length_map] at hlt
  refine ⟨hlt, ?_⟩
  rw [← hx, List.getElem_map, nth_eq hlt]
theorem pC_one {l : List PE} : ∀ vs ∈ l.map pC, vs.length = 1 := fun vs h => by
  obtain ⟨x, _, rfl⟩ := List.mem_map.1 h; rfl
set_option maxRecDepth 10000 in
theorem walk_step (v : Value) (L : List PE) (Es : List (List PE)) (I0 : Look) (hsl : Sl I0 5 v (L.map partC)) (hel : Es.length = L.length) (hbn : L.length ≤ 1000000000) (hWL : WordsR I0 L) (hrec : ∀ k, k < L.length → WalkOk (nth L k pe0).wv (nth Es k []) I0) : WalkOk v (flatE L Es) I0 := by
  intro γ Cd Cx G II lid xs hY i g00 F w0 w hcd0 hle0 hxs hw0
  refine enter Tryd.func19 rfl Tryd.ntmps19 rfl (hw0.self) ?_
  refine t_seq ?_
  refine t_region ?_
  refine l_q rfl rfl rfl (q_assign rfl rfl) ?_
  refine l_nil ?_
  refine n_then ?_
  refine t_seq ?_
  refine t_seq ?_
  refine t_region ?_
  refine l_q rfl rfl rfl (q_move rfl rfl) ?_
  refine l_q rfl rfl rfl ((by first | exact q_lenV rfl Tryd.underlying23 rfl | exact q_len rfl Tryd.underlying23 rfl (Sl.lenOf hsl (List.length_map _)))) ?_
  refine l_q rfl rfl rfl (q_move rfl rfl) ?_
  refine l_nil ?_
  refine n_then ?_
  refine t_block ?_
  refine t_loopE (ι := Nat × γ) (fun zz => zz.1 ≤ L.length ∧ Cd (i + preN L Es zz.1) zz.2 ∧ Le (II g00) (II zz.2)) (fun zz => L.length - zz.1) (fun zz => [(9, .int .i64 (zz.1 : Int))]) [(0, _), (1, _), (7, _), (8, _)] (fun zz => (II zz.2)) (fun zz => (F ++ G zz.2)) (0, g00) ?_ (sub_cons rfl sub_nil) (sub_cons rfl (sub_cons rfl (sub_cons rfl (sub_cons rfl sub_nil)))) (fun _ h => subC_st h) ?_
  · try dsimp only
    exact ⟨Nat.zero_le _, by rw [pre_zero]; exact hcd0, Le.refl _⟩
  rintro ⟨n, g⟩ ⟨hn, hcd, hJ⟩
  try dsimp only at *
  refine t_seq ?_
  refine t_region ?_
  refine l_q rfl rfl rfl (q_lss rfl rfl rfl) ?_
  refine l_nil ?_
  refine n_then ?_
  refine t_seq ?_
  refine t_cond rfl (fun hc0 => ?_) (fun hc0 => ?_)
  · skip
    try simp at hc0
    have hnL : n < L.length := by omega
    obtain ⟨hp1, hp2, hp3, hp4, hp5⟩ := flat_at_pre L Es n hel hnL
    have hx1 : xs[i + preN L Es n]? = some (pC (nth L n pe0)) := by rw [hxs _ hp1, hp2]
    have hx2 : ∀ k, k < (nth Es n []).length → xs[i + preN L Es n + 1 + k]? = some (pC (nth (nth Es n []) k pe0)) := fun k hk => by
      obtain ⟨h1, h2⟩ := hp3 k hk
      rw [show i + preN L Es n + 1 + k = i + (preN L Es n + 1 + k) by omega, hxs _ h1, h2]
    refine t_skip ?_
    refine n_then ?_
    refine t_seq ?_
    refine t_block ?_
    refine t_seq ?_
    refine t_region ?_
    refine l_q rfl rfl rfl ((by first | exact q_indexAddrVN rfl Tryd.underlying23 ti32 rfl rfl (by omega) | exact q_indexAddrN rfl Tryd.underlying23 ti32 rfl rfl (Sl.shape hsl (List.length_map _)) (by omega) | exact q_indexAddrV rfl Tryd.underlying23 ti32 rfl rfl (by omega) | exact q_indexAddr rfl Tryd.underlying23 ti32 rfl rfl (Sl.shape hsl (List.length_map _)) (by omega))) ?_
    refine l_q rfl rfl rfl ((by first | exact q_load_rowA rfl Tryd.underlying32 ti32 rfl rfl rfl | exact q_load_agg rfl Tryd.underlying32 ti32 rfl rfl (rds_pt (i := n) (hsl.mono (hle0.trans hJ)) (by omega)))) ?_
    refine l_e rfl rfl rfl (e_alloc rfl ti32 rfl) ?_
    rintro _ _ _ ⟨b6, rfl, rfl, rfl⟩
    refine l_e0 rfl rfl ((by first | exact e_store_all rfl ti32 rfl rfl rfl (by first | exact chC_ones _ | exact pcC_ones _ | exact partC_ones (hWL _ (nth_mem (by omega))) | simp [Value.oneCell', str, u8]) rfl | exact e_store_agg rfl ti32 rfl rfl rfl (by first | exact chC_ones _ | exact pcC_ones _ | exact partC_ones (hWL _ (nth_mem (by omega))) | simp [Value.oneCell', str, u8]) rfl)) ?_
    rintro _ _ _ ⟨rfl, rfl⟩
    refine l_nil ?_
    refine n_then ?_
    refine t_seq ?_
    refine t_region ?_
    refine l_q rfl rfl rfl (q_move rfl rfl) ?_
    refine l_q rfl rfl rfl ((by first | exact q_load_rowA rfl Tryd.underlying32 ti32 rfl rfl rfl | exact q_load_agg rfl Tryd.underlying32 ti32 rfl rfl (rds_pt (i := n) (hsl.mono (hle0.trans hJ)) (by omega)))) ?_
    refine l_yield (i := (i + preN L Es n)) g (wanted_n rfl) rfl rfl rfl rfl rfl hY (hx1) hcd rfl (fun g hcd hle => ?_) (fun g hcx hle => ?_)
    · skip
      have hcd1 : Cd (i + preN L Es n + 1) g := hcd
      refine l_q rfl rfl rfl (q_not rfl rfl) ?_
      refine l_q rfl rfl rfl (q_move rfl rfl) ?_
      refine l_split (t := 17) rfl (fun hs0 => ?_) (fun hs0 => ?_)
      · skip
        cases hs0
      · skip
        refine l_qg (wanted_g rfl rfl rfl rfl) rfl rfl (q_fieldAddr rfl Tryd.underlying32 rfl rfl ti23 rfl rfl) ?_
        refine l_qg (wanted_g rfl rfl rfl rfl) rfl rfl (q_load_row rfl Tryd.underlying23 rfl rfl (by rfl)) ?_
        refine l_qg (wanted_g rfl rfl rfl rfl) rfl rfl (q_move rfl rfl) ?_
        refine l_eg (wanted_g rfl rfl rfl rfl) rfl rfl (eff_call rfl rfl rfl Tryd.func19 (by kernel_rfl) rfl (fun w hw => hrec n hnL γ Cd Cx G II lid xs hY (i + preN L Es n + 1) g (row b6 32 (partC (nth L n pe0)) :: F) _ w hcd1 ((hle0.trans hJ).trans hle) hx2 hw)) ?_
        rintro _ _ _ ⟨bb, g2, rfl, rfl, rfl, hle2, hbt, hbf⟩
        refine l_heap (H' := row b6 32 (partC (nth L n pe0)) :: (F ++ G g2)) ?_ (fun _ h => h)
        refine l_qg (wanted_g rfl rfl rfl rfl) rfl rfl (q_not rfl rfl) ?_
        refine l_q rfl rfl rfl (q_pick rfl rfl rfl rfl) ?_
        refine l_nil ?_
        refine n_then ?_
        refine t_cond rfl (fun hc1 => ?_) (fun hc1 => ?_)
        · skip
          have hbb : bb = false := by simpa using hc1
          refine t_seq ?_
          refine t_region ?_
          refine l_q rfl rfl rfl (q_assign rfl rfl) ?_
          refine l_nil ?_
          refine n_then ?_
          refine t_ret ?_
          refine n_ret_block ?_
          refine n_ret_then ?_
          refine n_ret_then ?_
          refine n_ret_block ?_
          refine n_ret_then ?_
          refine n_ret1 rfl rfl (fun w' hw => ?_)
          -- leaf 0
          obtain ⟨k, hk1, hk2⟩ := hbf hbb
          exact ⟨_, rfl, II g2, F ++ G g2, ⟨false, g2, rfl, rfl, rfl, (hJ.trans hle).trans hle2, (fun h => by cases h), fun _ => ⟨k, by omega, hk2⟩⟩, subC_st hw⟩
        · skip
          have hbb : bb = true := by simpa using hc1
          refine t_skip ?_
          refine n_block ?_
          refine n_then ?_
          refine t_region ?_
          refine l_q rfl rfl rfl (q_add64 rfl rfl rfl (by omega)) ?_
          refine l_q rfl rfl rfl (q_move rfl rfl) ?_
          refine l_nil ?_
          refine n_roundE ((n + 1, g2)) ?_ ?_ (sub_cons rfl sub_nil) (sub_cons rfl (sub_cons rfl (sub_cons rfl (sub_cons rfl sub_nil)))) (fun _ h => by try dsimp only; exact subC_st h)
          · try dsimp only
            refine ⟨by omega, ?_, (hJ.trans hle).trans hle2⟩
            have h5 := hbt hbb
            rw [show i + preN L Es (n + 1) = i + preN L Es n + 1 + (nth Es n []).length by omega]
            exact h5
          · try dsimp only
            show L.length - (n + 1) < L.length - n
            omega
    · skip
      refine l_q rfl rfl rfl (q_not rfl rfl) ?_
      refine l_q rfl rfl rfl (q_move rfl rfl) ?_
      refine l_split (t := 17) rfl (fun hs1 => ?_) (fun hs1 => ?_)
      · skip
        refine l_skip rfl rfl rfl rfl rfl rfl rfl ?_
        refine l_skip rfl rfl rfl rfl rfl rfl rfl ?_
        refine l_skip rfl rfl rfl rfl rfl rfl rfl ?_
        refine l_skip rfl rfl rfl rfl rfl rfl rfl ?_
        refine l_skip rfl rfl rfl rfl rfl rfl rfl ?_
        refine l_q rfl rfl rfl (q_pick rfl rfl rfl rfl) ?_
        refine l_nil ?_
        refine n_then ?_
        refine t_cond rfl (fun hc2 => ?_) (fun hc2 => ?_)
        · skip
          refine t_seq ?_
          refine t_region ?_
          refine l_q rfl rfl rfl (q_assign rfl rfl) ?_
          refine l_nil ?_
          refine n_then ?_
          refine t_ret ?_
          refine n_ret_block ?_
          refine n_ret_then ?_
          refine n_ret_then ?_
          refine n_ret_block ?_
          refine n_ret_then ?_
          refine n_ret1 rfl rfl (fun w' hw => ?_)
          -- leaf 1
          exact ⟨_, rfl, II g, F ++ G g, ⟨false, g, rfl, rfl, rfl, hJ.trans hle, fun h => (by cases h), fun _ => ⟨i + preN L Es n + 1, by omega, hcx⟩⟩, subC_st hw⟩
        · skip
          cases hc2
      · skip
        cases hs1
  · skip
    try simp at hc0
    have hnL : n = L.length := by omega
    rw [hnL, pre_all hel] at hcd
    refine t_exit ?_
    refine n_exit_then ?_
    refine n_exit_then ?_
    refine n_exit_block ?_
    refine n_then ?_
    refine t_seq ?_
    refine t_region ?_
    refine l_q rfl rfl rfl (q_assign rfl rfl) ?_
    refine l_nil ?_
    refine n_then ?_
    refine t_ret ?_
    refine n_ret1 rfl rfl (fun w' hw => ?_)
    -- leaf 2
    exact ⟨_, rfl, II g, F ++ G g, ⟨true, g, rfl, rfl, rfl, hJ, fun _ => hcd, (fun h => by cases h)⟩, subC_st hw⟩
end Go.Tri
