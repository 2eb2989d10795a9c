/-
  The reference: all parts; the iterator.
-/
import Derived.Test.YtblgilokdmmjeaaDoorWC6
import Derived.Test.YtblgilokdmmjeaaDoorTriB14
namespace Go.Tri
open Go.Proofs Go.RowKit
theorem flat_len_ge : ∀ (L : List PE) (Es : List (List PE)), Es.length = L.length → L.length ≤ (flatE L Es).length
  | [], _, _ => Nat.zero_le _
  | x :: L, [], h => by simp at h
  | x :: L, e :: Es, h => by
    have := flat_len_ge L Es (by simpa using h)
    rw [flatE_cons, List.length_append, List.length_cons, List.length_cons]; omega
theorem walk_ok {I : Look} {v : Value} {E : List PE} (h : FlatR I v E) : E.length ≤ 1000000000 → WalkOk v E I := by
  induction h with
  | mk v L Es h hl hp hw ih =>
    intro hb
    have h1 := flat_len_ge L Es hl
    exact walk_step v L Es I h hl (by omega) hp (fun k hk => ih k hk (by
      obtain ⟨_, _, _, h4, h5⟩ := flat_at_pre L Es k hl hk
      omega))
/-- the reference's list of all parts -/
def RWalkOk (v : Value) (E : List PE) (I0 : Look) : Prop := ∀ (I : Look) (F : List HA) (w0 w : World), Le I0 I → St w0 I F w →
  Calls Tryd.prog 10 [v].toArray w (fun e w' => ∃ v1, e = .returned v1 ∧ ∃ I' H', (Le I I' ∧ F = H' ∧ Sl I' 5 v1 (E.map partC)) ∧ St w I' H' w')
set_option maxRecDepth 10000 in
theorem walkf_calls (v0 : Value) (h1 : One v0) (I : Look) (F : List HA) (w0 w : World) (hw0 : St w0 I F w) : Calls Tryd.prog 11 [v0].toArray w (fun e w' => ∃ v, e = .returned v ∧ ∃ I' H', (Le I I' ∧ F = H' ∧ ∃ b, v = .func (.func 18) #[] #[.pointer (some ⟨b, 0, none⟩)] ∧ CellI I' b 0 v0) ∧ St w I' H' w') := by
  refine enter Tryd.func11 rfl Tryd.ntmps11 rfl (hw0.self) ?_
  refine t_seq ?_
  refine t_region ?_
  refine l_e rfl rfl rfl (e_box rfl rfl (by first | exact One.cells (by assumption) | exact One.cells h1 | rfl)) ?_
  rintro _ _ _ ⟨b1, rfl, rfl, rfl⟩
  refine l_q rfl rfl rfl (q_assign rfl rfl) ?_
  refine l_nil ?_
  refine n_then ?_
  refine t_seq ?_
  refine t_freezeRow b1 (fun J hJ h1 => ?_)
  refine t_region ?_
  refine l_q rfl rfl rfl (q_makeFunc rfl rfl rfl) ?_
  refine l_q rfl rfl rfl (q_assign rfl rfl) ?_
  refine l_nil ?_
  refine n_then ?_
  refine t_ret ?_
  refine n_ret1 rfl rfl (fun w' hw => ?_)
  -- leaf 0
  exact ⟨_, rfl, J, _, ⟨hJ, rfl, b1, rfl, h1 0 _ rfl⟩, hw⟩
set_option maxRecDepth 10000 in
theorem walk_iter (v0 : Value) (E : List PE) (I0 : Look) (b1 : Nat) (hF : FlatR I0 v0 E) (hb : E.length ≤ 1000000000) : Iterates Tryd.prog 18 [.pointer (some ⟨b1, 0, none⟩)] (E.map pC) (fun I => CellI I b1 0 v0 ∧ Le I0 I) := by
  intro γ Cd Cx G II lid hY w0 g00 F w hcd0 hpre hw0
  obtain ⟨hb1, hle0⟩ := hpre
  refine enter Tryd.func18 rfl Tryd.ntmps18 rfl (hw0.self) ?_
  refine t_region ?_
  refine l_q rfl rfl rfl ((by first | exact q_load_row rfl Tryd.underlying23 rfl rfl (by rfl) | exact q_load rfl Tryd.underlying23 rfl rfl (rd_imm hb1))) ?_
  refine l_q rfl rfl rfl (q_move rfl rfl) ?_
  refine l_e rfl rfl rfl (eff_call rfl rfl rfl Tryd.func19 (by kernel_rfl) rfl (fun w hw => walk_ok hF hb γ Cd Cx G II lid (E.map pC) hY 0 g00 F _ w hcd0 hle0 (fun k hk => by rw [Nat.zero_add, List.getElem?_map, List.getElem?_eq_getElem hk, nth_eq hk]; rfl) hw)) ?_
  rintro _ _ _ ⟨bb, g2, rfl, rfl, rfl, hle2, hbt, hbf⟩
  refine l_nil ?_
  refine n_end0 rfl (fun w' hw => ?_)
  -- leaf 0
  refine ⟨_, rfl, g2, ?_, hle2, hw0.rebase hw⟩
  rw [List.length_map]
  cases bb with
  | true => exact .inl (by have := hbt rfl; rwa [Nat.zero_add] at this)
  | false => exact .inr (by have := hbf rfl; rwa [Nat.zero_add] at this)
set_option maxRecDepth 10000 in
theorem rwalk_step (v : Value) (L : List PE) (Es : List (List PE)) (I0 : Look) (hsl : Sl I0 5 v (L.map partC)) (hel : Es.length = L.length) (hbn : (flatE L Es).length ≤ 1000000000) (hWL : WordsR I0 L) (hWE : ∀ k, k < L.length → WordsR I0 (nth Es k [])) (hrec : ∀ k, k < L.length → RWalkOk (nth L k pe0).wv (nth Es k []) I0) : RWalkOk v (flatE L Es) I0 := by
  intro I F w0 w hle0 hw0
  have hge := flat_len_ge L Es hel
  refine enter Tryd.func10 rfl Tryd.ntmps10 rfl (hw0.self) ?_
  refine t_seq ?_
  refine t_region ?_
  refine l_q rfl rfl rfl (q_assign rfl rfl) ?_
  refine l_nil ?_
  refine n_then ?_
  refine t_seq ?_
  refine t_region ?_
  refine l_q rfl rfl rfl (q_assign rfl rfl) ?_
  refine l_nil ?_
  refine n_then ?_
  refine t_seq ?_
  refine t_seq ?_
  refine t_region ?_
  refine l_q rfl rfl rfl (q_assign rfl rfl) ?_
  refine l_nil ?_
  refine n_then ?_
  refine t_block ?_
  refine t_loopE (ι := Nat × Value × Look) (fun zz => zz.1 ≤ L.length ∧ Le I zz.2.2) (fun zz => L.length - zz.1) (fun zz => [(4, .int .i64 (zz.1 : Int)), (3, zz.2.1)]) [(0, _), (2, _)] (fun zz => zz.2.2) (fun zz => (tvec 32 5 partC zz.2.1 (flatE (L.take zz.1) (Es.take zz.1)) :: F)) (0, .slice none 0 0, I) ?_ (sub_cons rfl (sub_cons rfl sub_nil)) (sub_cons rfl (sub_cons rfl sub_nil)) (fun _ h => by dsimp only; rw [List.take_zero, List.take_zero]; exact st_nilT 32 5 partC h) ?_
  · try dsimp only
    exact ⟨Nat.zero_le _, Le.refl _⟩
  rintro ⟨i, vo, J⟩ ⟨hi, hJ⟩
  try dsimp only at *
  have hpre : (flatE (L.take i) (Es.take i)).length = preN L Es i := rfl
  refine t_seq ?_
  refine t_seq ?_
  refine t_region ?_
  refine l_q rfl rfl rfl (q_move rfl rfl) ?_
  refine l_q rfl rfl rfl (q_move rfl rfl) ?_
  refine l_q rfl rfl rfl ((by first | exact q_lenV rfl Tryd.underlying23 rfl | exact q_len rfl Tryd.underlying23 rfl (Sl.lenOf hsl (List.length_map _)))) ?_
  refine l_q rfl rfl rfl (q_lss rfl rfl rfl) ?_
  refine l_nil ?_
  refine n_then ?_
  refine t_cond rfl (fun hc0 => ?_) (fun hc0 => ?_)
  · skip
    try simp at hc0
    have hiL : i < L.length := by omega
    obtain ⟨hp1, _, _, hp4, hp5⟩ := flat_at_pre L Es i hel hiL
    refine t_skip ?_
    refine n_then ?_
    refine t_seq ?_
    refine t_block ?_
    refine t_seq ?_
    refine t_region ?_
    refine l_q rfl rfl rfl (q_move rfl rfl) ?_
    refine l_q rfl rfl rfl (q_move rfl rfl) ?_
    refine l_q rfl rfl rfl (q_move rfl rfl) ?_
    refine l_q rfl rfl rfl ((by first | exact q_indexAddrVN rfl Tryd.underlying23 ti32 rfl rfl (by omega) | exact q_indexAddrN rfl Tryd.underlying23 ti32 rfl rfl (Sl.shape hsl (List.length_map _)) (by omega) | exact q_indexAddrV rfl Tryd.underlying23 ti32 rfl rfl (by omega) | exact q_indexAddr rfl Tryd.underlying23 ti32 rfl rfl (Sl.shape hsl (List.length_map _)) (by omega))) ?_
    refine l_q rfl rfl rfl ((by first | exact q_load_rowA rfl Tryd.underlying32 ti32 rfl rfl rfl | exact q_load_agg rfl Tryd.underlying32 ti32 rfl rfl (rds_pt (i := i) (hsl.mono (hle0.trans hJ)) (by omega)))) ?_
    refine l_e rfl rfl rfl (e_buildSlice1 rfl Tryd.underlying23 ti32 rfl rfl rfl (by first | exact One.cells (by assumption) | rfl) rfl) ?_
    rintro _ _ _ ⟨b16, rfl, rfl, rfl⟩
    refine l_e rfl rfl rfl (e_appendT (f := partC) (c := nth L i pe0) rfl Tryd.underlying23 ti32 rfl rfl rfl rfl rfl rfl rfl (by first | exact partC_ones (hWL _ (nth_mem (by omega))) | exact byC_ones _ | exact chC_ones _ | exact pcC_ones _ | simp [Value.oneCell', str, u8] | exact ones1 (by assumption)) (by simp only [maxLen]; omega) (by omega)) ?_
    rintro v17 _ _ ⟨rfl, rfl⟩
    refine l_q rfl rfl rfl (q_assign rfl rfl) ?_
    refine l_nil ?_
    refine n_then ?_
    refine t_region ?_
    refine l_q rfl rfl rfl (q_move rfl rfl) ?_
    refine l_q rfl rfl rfl (q_move rfl rfl) ?_
    refine l_q rfl rfl rfl (q_move rfl rfl) ?_
    refine l_q rfl rfl rfl ((by first | exact q_indexAddrVN rfl Tryd.underlying23 ti32 rfl rfl (by omega) | exact q_indexAddrN rfl Tryd.underlying23 ti32 rfl rfl (Sl.shape hsl (List.length_map _)) (by omega) | exact q_indexAddrV rfl Tryd.underlying23 ti32 rfl rfl (by omega) | exact q_indexAddr rfl Tryd.underlying23 ti32 rfl rfl (Sl.shape hsl (List.length_map _)) (by omega))) ?_
    refine l_q rfl rfl rfl (q_fieldAddr rfl Tryd.underlying32 rfl rfl ti23 rfl rfl) ?_
    refine l_q rfl rfl rfl ((by first | exact q_load_row rfl Tryd.underlying23 rfl rfl (by rfl) | exact q_load rfl Tryd.underlying23 rfl rfl (rd_ptf (i := i) (j := 3) (hsl.mono (hle0.trans hJ)) (by omega) rfl))) ?_
    refine l_e rfl rfl rfl (eff_call rfl rfl rfl Tryd.func10 (by kernel_rfl) rfl (fun w hw => hrec i hiL _ _ _ w (hle0.trans hJ) hw)) ?_
    rintro v24 J24 _ ⟨hJ24, rfl, hsl24⟩
    refine l_e rfl rfl rfl (e_appendSm (f := partC) (l := (flatE (L.take i) (Es.take i)) ++ [nth L i pe0]) rfl Tryd.underlying23 ti32 rfl rfl rfl rfl (hsl24) rfl (fun _ => rfl) (fun x hx => partC_ones (hWE i hiL x hx)) (by simp only [maxLen, List.length_append, List.length_cons, List.length_nil]; omega) (by simp only [List.length_append, List.length_cons, List.length_nil]; omega)) ?_
    rintro v25 _ _ ⟨rfl, rfl⟩
    refine l_q rfl rfl rfl (q_assign rfl rfl) ?_
    refine l_nil ?_
    refine n_block ?_
    refine n_then ?_
    refine t_region ?_
    refine l_q rfl rfl rfl (q_move rfl rfl) ?_
    refine l_q rfl rfl rfl (q_add64 rfl rfl rfl (by omega)) ?_
    refine l_q rfl rfl rfl (q_assign rfl rfl) ?_
    refine l_nil ?_
    refine n_roundE ((i + 1, v25, J24)) ?_ ?_ (sub_cons rfl (sub_cons rfl sub_nil)) (sub_cons rfl (sub_cons rfl sub_nil)) (fun _ h => by dsimp only; rw [flat_take hel hiL]; exact subC_st h)
    · try dsimp only
      exact ⟨by omega, hJ.trans hJ24⟩
    · try dsimp only
      show L.length - (i + 1) < L.length - i
      omega
  · skip
    try simp at hc0
    have hiL : i = L.length := by omega
    refine t_exit ?_
    refine n_exit_then ?_
    refine n_exit_then ?_
    refine n_exit_block ?_
    refine n_then ?_
    refine t_seq ?_
    rw [show (flatE (L.take i) (Es.take i)) = flatE L Es by rw [hiL, List.take_length, ← hel, List.take_length]]
    refine t_freezeT (f := partC) (l := flatE L Es) vo (fun _ => rfl) (fun Jf hJf hvf => ?_)
    refine t_region ?_
    refine l_q rfl rfl rfl (q_move rfl rfl) ?_
    refine l_q rfl rfl rfl (q_assign rfl rfl) ?_
    refine l_nil ?_
    refine n_then ?_
    refine t_ret ?_
    refine n_ret1 rfl rfl (fun w' hw => ?_)
    -- leaf 0
    exact ⟨_, rfl, Jf, _, ⟨hJ.trans hJf, rfl, hvf⟩, hw⟩
theorem flat_sub {I : Look} {v : Value} {E : List PE} (h : FlatR I v E) : E.length ≤ 1000000000 → RWalkOk v E I := by
  induction h with
  | mk v L Es h hl hp hw ih =>
    intro hb
    exact rwalk_step v L Es I h hl hb hp (fun k hk => flat_words (hw k hk)) (fun k hk => ih k hk (by
      obtain ⟨_, _, _, h4, h5⟩ := flat_at_pre L Es k hl hk
      omega))
end Go.Tri
