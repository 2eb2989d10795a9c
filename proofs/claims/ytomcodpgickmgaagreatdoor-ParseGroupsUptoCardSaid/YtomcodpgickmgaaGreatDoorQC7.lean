/-
  The parser: and-ors, bodies, pipelines.
-/
import Derived.Test.YtomcodpgickmgaaGreatDoorQC4
namespace Go.Tri
open Go.Proofs Go.RowKit
def ItemV : Look → PS → Nd × Bool → Value → Prop := fun I _ x v => ∃ c, v = .tuple #[.agg (ncC c).toArray, .bool x.2] ∧ NdAt I x.1 c
theorem nc0_ones : ∀ u ∈ ncC nc0, u.oneCell' = true := ncC_ones' nil_one nil_one nil_one
theorem kc_ones {k : Nat} {nt : Bool} {v : Value} (h : One v) : ∀ u ∈ ncC ⟨k, nt, false, [], nilS', nilS', v⟩, u.oneCell' = true := ncC_ones' nil_one nil_one h
theorem slb_one {b n c : Nat} : One (.slice (some ⟨b, 0, none⟩) n c) := ⟨rfl, rfl⟩
theorem nth_at {I : Look} {ks : List Nd} {cs : List NC} (h : NdsAt I ks cs) (hl : cs.length = 1) : ∃ k, ks = [k] ∧ NdAt I k (nth cs 0 nc0) := by
  have h2 := h.len
  obtain ⟨k, rfl⟩ := List.length_eq_one_iff.1 (show ks.length = 1 by omega)
  obtain ⟨c, rfl⟩ := List.length_eq_one_iff.1 hl
  unfold NdsAt at h
  exact ⟨k, rfl, h.1⟩
theorem pipe_one {I : Look} {ks : List Nd} {cs : List NC} {nt : Bool} (h : NdsAt I ks cs) (hc : (decide ((cs.length : Int) = 1) && !nt) = true) : NdAt I (pipeR nt ks) (nth cs 0 nc0) ∧ 0 < cs.length := by
  rw [Bool.and_eq_true, decide_eq_true_eq, Bool.not_eq_true'] at hc
  obtain ⟨h1, rfl⟩ := hc
  obtain ⟨k, rfl, h2⟩ := nth_at h (by omega)
  exact ⟨h2, by omega⟩
theorem pipe_many {I : Look} {ks : List Nd} {cs : List NC} {nt : Bool} (h : NdsAt I ks cs) (hc : (decide ((cs.length : Int) = 1) && !nt) = false) : pipeR nt ks = .mk 2 nt false [] [] [] ks := by
  have hl := h.len
  match ks, nt, hc with
  | [], nt, _ => cases nt <;> rfl
  | [k], true, _ => rfl
  | [k], false, hc =>
    rw [hl] at hc
    cases hc
  | _ :: _ :: _, nt, _ => cases nt <;> rfl
theorem cmdB_int {t : Tok} : (opB [40] t || (decide ((t.kind : Int) = 1) && amongB reservedS t.text)) = (opB [40] t || (decide (t.kind = 1) && amongB reservedS t.text)) := by
  rw [show decide ((t.kind : Int) = 1) = decide (t.kind = 1) by by_cases h : t.kind = 1 <;> simp [h] <;> omega]
theorem ones_nth {I : Look} {ks : List Nd} {cs : List NC} (h : NdsAt I ks cs) : ∀ u ∈ ncC (nth cs 0 nc0), u.oneCell' = true := by
  match ks, cs, h with
  | _, [], _ => exact nc0_ones
  | k :: ks, c :: cs, h =>
    unfold NdsAt at h
    exact h.1.ones
theorem now_filled_if {α : Type} {s : List UInt8} {p : PS} {c : Bool} {f : Tok → PS → ReR α} {r : ReR α} (h : Filled s p) : (if c then bnd (nowP s) f p else r) = if c then f (headT s p) p else r := by rw [bnd_ok (now_filled h)]
set_option maxRecDepth 10000 in
theorem item_calls (b : Nat) (s : List UInt8) (hs : s.length ≤ 65536) (A : PS → ReR Nd) (d : Nat) (hA : ParC 54 b s [.int .i64 (d : Int)] A NdV 1) : ParC 34 b s [.int .i64 (d : Int)] (itemP s A) ItemV 1 := by
  intro p lv I F w0 w R hR hp hw0
  have hL := Le.refl I
  obtain ⟨M, hM⟩ : ∃ M, M = muP s p := ⟨_, rfl⟩
  unfold itemP at hR
  refine enter Tryz.func34 rfl Tryz.ntmps34 rfl (hw0.self) ?_
  refine t_seq ?_
  refine t_region ?_
  refine l_e rfl rfl rfl (e_alloc rfl ti29 rfl) ?_
  rintro _ _ _ ⟨b4, rfl, rfl, rfl⟩
  refine l_heap (H' := row b4 29 (ncC nc0) :: _) ?_ (fun _ h => h)
  refine l_q rfl rfl rfl (q_assign rfl rfl) ?_
  refine l_nil ?_
  refine n_then ?_
  refine t_seq ?_
  refine t_region ?_
  refine l_q rfl rfl rfl (q_move rfl rfl) ?_
  refine l_q rfl rfl rfl (q_move rfl rfl) ?_
  refine l_eP rfl rfl rfl (eff_callP rfl rfl rfl Tryz.func54 (by kernel_rfl) rfl (fun w hw => hA p lv _ _ _ w _ rfl hp (picks_st1 (row b 53 (prC s lv p.next)) hw))) ?_ ?_
  · skip
    rintro _ Jx _ ⟨hJx, rfl, ax, ex, hbx, rfl⟩
    rw [bnd_bad hbx] at hR
    refine np_then (?_)
    exact np_body fun w hw => .inr ⟨_, rfl, Jx, _, ⟨hL.trans hJx, rfl, ax, ex, hR, rfl⟩, subC_st hw⟩
  rintro v9 J _ ⟨hJ, x9, p, lv, he9, hmu9, hp, ⟨c9, rfl, hn9⟩, rfl⟩
  have hL := hL.trans hJ
  rw [bnd_ok he9] at hR
  refine l_e rfl rfl rfl (e_alloc rfl ti29 rfl) ?_
  rintro _ _ _ ⟨b6, rfl, rfl, rfl⟩
  refine l_e0 rfl rfl ((by first | exact e_store_all rfl ti29 rfl rfl rfl (by first | exact chC_ones _ | exact pcC_ones _ | exact nc0_ones | exact kc_ones slb_one | exact hn9.ones | exact kc_ones slb_one | simp [Value.oneCell', str, u8]) rfl | exact e_store_agg rfl ti29 rfl rfl rfl (by first | exact chC_ones _ | exact pcC_ones _ | exact nc0_ones | exact kc_ones slb_one | exact hn9.ones | exact kc_ones slb_one | simp [Value.oneCell', str, u8]) rfl)) ?_
  rintro _ _ _ ⟨rfl, rfl⟩
  refine l_heap (H' := row b6 29 (ncC c9) :: _) ?_ (fun _ h => h)
  refine l_nil ?_
  refine n_then ?_
  refine t_seq ?_
  refine t_block ?_
  refine t_seq ?_
  refine t_region ?_
  refine l_q rfl rfl rfl (q_move rfl rfl) ?_
  refine l_eP rfl rfl rfl (eff_callP rfl rfl rfl Tryz.func55 (by kernel_rfl) rfl (fun w hw => op_calls b s hs [38] p lv _ _ _ w _ rfl hp (picks_st1 (row b 53 (prC s lv p.next)) hw))) ?_ ?_
  · skip
    rintro _ Jx _ ⟨hJx, rfl, ax, ex, hbx, rfl⟩
    rw [bnd_bad hbx] at hR
    refine np_then (np_block (np_then (?_)))
    exact np_body fun w hw => .inr ⟨_, rfl, Jx, _, ⟨hL.trans hJx, rfl, ax, ex, hR, rfl⟩, subC_st hw⟩
  rintro v12 J _ ⟨hJ, x12, p, lv, he12, hmu12, hp, ⟨rfl, hf, rfl⟩, rfl⟩
  have hL := hL.trans hJ
  rw [bnd_ok he12] at hR
  have hn9 := hn9.mono hJ
  refine l_q rfl rfl rfl (q_assign rfl rfl) ?_
  refine l_nil ?_
  refine n_then ?_
  refine t_cond rfl (fun hc0 => ?_) (fun hc0 => ?_)
  · skip
    have h38 : opB [38] (headT s p) = true := hc0
    rw [if_pos h38] at hR
    refine t_seq ?_
    refine t_region ?_
    refine l_q rfl rfl rfl (q_move rfl rfl) ?_
    refine l_e rfl rfl rfl (eff_call rfl rfl rfl Tryz.func36 (by kernel_rfl) rfl (fun w hw => stepF_calls b s hs p lv _ _ _ w hf hp (picks_st1 (row b 53 (prC s lv p.next)) hw))) ?_
    rintro _ J _ ⟨hJ, rfl, p, lv, hst14, hma14, hmb14, hp, rfl⟩
    have hL := hL.trans hJ
    rw [← hst14] at hR
    have hmb := hmb14 (opB_kind h38)
    have hn9 := hn9.mono hJ
    refine l_nil ?_
    refine n_then ?_
    refine t_seq ?_
    refine t_region ?_
    refine l_q rfl rfl rfl (q_load_rowA rfl Tryz.underlying29 ti29 rfl rfl rfl) ?_
    refine l_e rfl rfl rfl (e_buildSlice1 rfl Tryz.underlying27 ti29 rfl rfl rfl (by first | exact One.cells (by assumption) | rfl) rfl) ?_
    rintro _ _ _ ⟨b16, rfl, rfl, rfl⟩
    refine l_heap (H' := tvec 29 7 ncC (.slice (some ⟨b16, 0, none⟩) 1 1) [c9] :: _) ?_ (fun _ h => st_rowVec h rfl (by decide))
    refine l_q rfl rfl rfl (q_build (pl := [(_, _), (_, _), (_, _), (_, _), (_, _), (_, _), (_, _)]) (cs := (ncC ⟨6, false, false, [], nilS', nilS', (.slice (some ⟨b16, 0, none⟩) 1 1)⟩).toArray) rfl Tryz.underlying29 ti29 ⟨rfl, ⟨_, _, ti3⟩, rfl, ⟨_, _, ti4⟩, rfl, ⟨_, _, ti4⟩, rfl, ⟨_, _, ti9⟩, rfl, ⟨_, _, ti25⟩, rfl, ⟨_, _, ti26⟩, rfl, ⟨_, _, ti27⟩, trivial⟩ rfl rfl) ?_
    refine l_e0 rfl rfl ((by first | exact e_store_all rfl ti29 rfl rfl rfl (by first | exact chC_ones _ | exact pcC_ones _ | exact nc0_ones | exact kc_ones slb_one | exact hn9.ones | exact kc_ones slb_one | simp [Value.oneCell', str, u8]) rfl | exact e_store_agg rfl ti29 rfl rfl rfl (by first | exact chC_ones _ | exact pcC_ones _ | exact nc0_ones | exact kc_ones slb_one | exact hn9.ones | exact kc_ones slb_one | simp [Value.oneCell', str, u8]) rfl)) ?_
    rintro _ _ _ ⟨rfl, rfl⟩
    refine l_heap (H' := row b4 29 (ncC ⟨6, false, false, [], nilS', nilS', (.slice (some ⟨b16, 0, none⟩) 1 1)⟩) :: _) ?_ (fun _ h => h)
    refine l_freezeT (f := ncC) (l := [c9]) (.slice (some ⟨b16, 0, none⟩) 1 1) (fun _ => rfl) (fun Jf hJf hvf => ?_)
    refine l_q rfl rfl rfl (q_assign rfl rfl) ?_
    refine l_nil ?_
    refine n_then ?_
    refine t_ret ?_
    refine n_ret_block ?_
    refine n_ret_then ?_
    refine n_retGG (.inl rfl) rfl (by exact rg_row rfl Tryz.underlying29 ti29 rfl rfl (rg_tmp rfl (rg_nil))) (fun w' hw => ?_)
    -- leaf 0
    exact .inl ⟨_, rfl, Jf, _, ⟨hL.trans hJf, _, p, lv, hR, by omega, hp.mono hJf, ⟨_, rfl, NdAt.kids hvf (NdsAt.one (hn9.mono hJf))⟩, rfl⟩, subC_st hw⟩
  · skip
    have h38 : ¬ opB [38] (headT s p) = true := by rw [show opB [38] (headT s p) = false from hc0]; simp
    rw [if_neg h38] at hR
    refine t_seq ?_
    refine t_region ?_
    refine l_q rfl rfl rfl (q_move rfl rfl) ?_
    refine l_q rfl rfl rfl (quiet_call rfl rfl rfl Tryz.func55 (by kernel_rfl) rfl ((fun w hw => opF_pure b s [59] p lv w hs hf hp.1 (rowI_of hw) (hp.2.2.mono hw.le)))) ?_
    refine l_q rfl rfl rfl (q_assign rfl rfl) ?_
    refine l_nil ?_
    refine n_then ?_
    refine t_cond rfl (fun hc1 => ?_) (fun hc1 => ?_)
    · skip
      have h59 : opB [59] (headT s p) = true := hc1
      rw [if_pos h59] at hR
      refine t_seq ?_
      refine t_region ?_
      refine l_q rfl rfl rfl (q_move rfl rfl) ?_
      refine l_e rfl rfl rfl (eff_call rfl rfl rfl Tryz.func36 (by kernel_rfl) rfl (fun w hw => stepF_calls b s hs p lv _ _ _ w hf hp (picks_st1 (row b 53 (prC s lv p.next)) hw))) ?_
      rintro _ J _ ⟨hJ, rfl, p, lv, hst22, hma22, hmb22, hp, rfl⟩
      have hL := hL.trans hJ
      rw [← hst22] at hR
      have hmb := hmb22 (opB_kind h59)
      have hn9 := hn9.mono hJ
      refine l_nil ?_
      refine n_then ?_
      refine t_seq ?_
      refine t_region ?_
      refine l_q rfl rfl rfl (q_load_rowA rfl Tryz.underlying29 ti29 rfl rfl rfl) ?_
      refine l_e0 rfl rfl ((by first | exact e_store_all rfl ti29 rfl rfl rfl (by first | exact chC_ones _ | exact pcC_ones _ | exact nc0_ones | exact kc_ones slb_one | exact hn9.ones | exact kc_ones slb_one | simp [Value.oneCell', str, u8]) rfl | exact e_store_agg rfl ti29 rfl rfl rfl (by first | exact chC_ones _ | exact pcC_ones _ | exact nc0_ones | exact kc_ones slb_one | exact hn9.ones | exact kc_ones slb_one | simp [Value.oneCell', str, u8]) rfl)) ?_
      rintro _ _ _ ⟨rfl, rfl⟩
      refine l_heap (H' := row b4 29 (ncC c9) :: _) ?_ (fun _ h => h)
      refine l_q rfl rfl rfl (q_assign rfl rfl) ?_
      refine l_nil ?_
      refine n_then ?_
      refine t_ret ?_
      refine n_ret_block ?_
      refine n_ret_then ?_
      refine n_retGG (.inl rfl) rfl (by exact rg_row rfl Tryz.underlying29 ti29 rfl rfl (rg_tmp rfl (rg_nil))) (fun w' hw => ?_)
      -- leaf 1
      exact .inl ⟨_, rfl, J, _, ⟨hL, _, p, lv, hR, (by omega), hp, ⟨_, rfl, hn9⟩, rfl⟩, subC_st hw⟩
    · skip
      have h59 : ¬ opB [59] (headT s p) = true := by rw [show opB [59] (headT s p) = false from hc1]; simp
      rw [if_neg h59] at hR
      refine t_skip ?_
      refine n_block ?_
      refine n_then ?_
      refine t_seq ?_
      refine t_region ?_
      refine l_q rfl rfl rfl (q_load_rowA rfl Tryz.underlying29 ti29 rfl rfl rfl) ?_
      refine l_e0 rfl rfl ((by first | exact e_store_all rfl ti29 rfl rfl rfl (by first | exact chC_ones _ | exact pcC_ones _ | exact nc0_ones | exact kc_ones slb_one | exact hn9.ones | exact kc_ones slb_one | simp [Value.oneCell', str, u8]) rfl | exact e_store_agg rfl ti29 rfl rfl rfl (by first | exact chC_ones _ | exact pcC_ones _ | exact nc0_ones | exact kc_ones slb_one | exact hn9.ones | exact kc_ones slb_one | simp [Value.oneCell', str, u8]) rfl)) ?_
      rintro _ _ _ ⟨rfl, rfl⟩
      refine l_heap (H' := row b4 29 (ncC c9) :: _) ?_ (fun _ h => h)
      refine l_q rfl rfl rfl (q_assign rfl rfl) ?_
      refine l_nil ?_
      refine n_then ?_
      refine t_ret ?_
      refine n_retGG (.inl rfl) rfl (by exact rg_row rfl Tryz.underlying29 ti29 rfl rfl (rg_tmp rfl (rg_nil))) (fun w' hw => ?_)
      -- leaf 2
      exact .inl ⟨_, rfl, J, _, ⟨hL, _, p, lv, hR, (by omega), hp, ⟨_, rfl, hn9⟩, rfl⟩, subC_st hw⟩
set_option maxRecDepth 10000 in
theorem body_calls (b : Nat) (s : List UInt8) (hs : s.length ≤ 65536) (A : PS → ReR Nd) (d : Nat) (hA : ParC 54 b s [.int .i64 (d : Int)] A NdV 1) : ParC 158 b s [.int .i64 (d : Int)] (bodyP s A) NdV 1 := by
  intro p lv I F w0 w R hR hp hw0
  have hL := Le.refl I
  obtain ⟨M, hM⟩ : ∃ M, M = muP s p := ⟨_, rfl⟩
  unfold bodyP at hR
  have hm2 := mu_le hp.1
  refine enter Tryz.func158 rfl Tryz.ntmps158 rfl (hw0.self) ?_
  refine t_seq ?_
  refine t_region ?_
  refine l_e rfl rfl rfl (e_alloc rfl ti29 rfl) ?_
  rintro _ _ _ ⟨b4, rfl, rfl, rfl⟩
  refine l_heap (H' := row b4 29 (ncC nc0) :: _) ?_ (fun _ h => h)
  refine l_nil ?_
  refine n_then ?_
  refine t_seq ?_
  refine t_region ?_
  refine l_q rfl rfl rfl (q_move rfl rfl) ?_
  refine l_eP rfl rfl rfl (eff_callP rfl rfl rfl Tryz.func32 (by kernel_rfl) rfl (fun w hw => lines_calls b s hs p lv _ _ _ w _ rfl hp (picks_st1 (row b 53 (prC s lv p.next)) hw))) ?_ ?_
  · skip
    rintro _ Jx _ ⟨hJx, rfl, ax, ex, hbx, rfl⟩
    rw [bnd_bad hbx] at hR
    refine np_then (?_)
    exact np_body fun w hw => .inr ⟨_, rfl, Jx, _, ⟨hL.trans hJx, rfl, ax, ex, hR, rfl⟩, subC_st hw⟩
  rintro v10 J _ ⟨hJ, x10, p, lv, he10, hmu10, hp, ⟨rfl, hf, hk3⟩, rfl⟩
  have hL := hL.trans hJ
  rw [bnd_ok he10] at hR
  refine l_nil ?_
  refine n_then ?_
  refine t_seq ?_
  refine t_region ?_
  refine l_q rfl rfl rfl (q_assign rfl rfl) ?_
  refine l_nil ?_
  refine n_then ?_
  refine t_seq ?_
  refine t_seq ?_
  refine t_region ?_
  refine l_q rfl rfl rfl (q_assign rfl rfl) ?_
  refine l_nil ?_
  refine n_then ?_
  refine t_block ?_
  refine t_loopE (ι := PS × Value × Look × Value × List NC × List Nd × Nat × Bool) (fun zz => Le I zz.2.2.1 ∧ PSt s zz.1 zz.2.1 zz.2.2.1 ∧ NdsAt zz.2.2.1 zz.2.2.2.2.2.1 zz.2.2.2.2.1 ∧ muP s zz.1 + zz.2.2.2.2.2.1.length ≤ muP s p ∧ (zz.2.2.2.2.2.2.2 = true → muP s zz.1 < zz.2.2.2.2.2.2.1 ∧ R = bodyN s A zz.2.2.2.2.2.2.1 zz.2.2.2.2.2.1 zz.1) ∧ (zz.2.2.2.2.2.2.2 = false → 1 ≤ zz.2.2.2.2.2.1.length ∧ R = .ok (severalP zz.2.2.2.2.2.1) zz.1)) (fun zz => (if zz.2.2.2.2.2.2.2 then muP s zz.1 + 1 else 0)) (fun zz => [(5, zz.2.2.2.1), (6, .bool zz.2.2.2.2.2.2.2)]) [(0, _), (1, _), (4, _)] (fun zz => zz.2.2.1) (fun zz => (tvec 29 7 ncC zz.2.2.2.1 zz.2.2.2.2.1 :: row b4 29 (ncC nc0) :: row b 53 (prC s zz.2.1 zz.1.next) :: F)) (p, lv, J, .slice none 0 0, [], [], muP s p + 1, true) ?_ (sub_cons rfl (sub_cons rfl sub_nil)) (sub_cons rfl (sub_cons rfl (sub_cons rfl sub_nil))) (fun _ h => by dsimp only; exact subC_st (st_nilT 29 7 ncC h)) ?_
  · try dsimp only
    exact ⟨hL, hp, NdsAt.nil, by simp only [List.length_nil]; omega, fun _ => ⟨Nat.lt_succ_self _, hR⟩, fun h => by cases h⟩
  rintro ⟨p, lv, J, v, cs, l, g, mo⟩ ⟨hL, hp, hns, hmu, hmt, hmf⟩
  try dsimp only at *
  have hcl := hns.len
  refine t_seq ?_
  refine t_seq ?_
  refine t_region ?_
  refine l_q rfl rfl rfl (q_move rfl rfl) ?_
  refine l_nil ?_
  refine n_then ?_
  refine t_cond rfl (fun hc0 => ?_) (fun hc0 => ?_)
  · skip
    subst hc0
    obtain ⟨hg, hR⟩ := hmt rfl
    obtain ⟨g, rfl⟩ : ∃ g', g = g' + 1 := ⟨g - 1, by omega⟩
    rw [bodyN] at hR
    refine t_skip ?_
    refine n_then ?_
    refine t_block ?_
    refine t_seq ?_
    refine t_region ?_
    refine l_q rfl rfl rfl (q_move rfl rfl) ?_
    refine l_q rfl rfl rfl (q_move rfl rfl) ?_
    refine l_eP rfl rfl rfl (eff_callP rfl rfl rfl Tryz.func34 (by kernel_rfl) rfl (fun w hw => item_calls b s hs _ d hA p lv _ _ _ w _ rfl hp (picks_st1 (row b 53 (prC s lv p.next)) hw))) ?_ ?_
    · skip
      rintro _ Jx _ ⟨hJx, rfl, ax, ex, hbx, rfl⟩
      rw [bnd_bad hbx] at hR
      refine np_then (np_block (np_then (np_block (np_then (?_)))))
      exact np_body fun w hw => .inr ⟨_, rfl, Jx, _, ⟨hL.trans hJx, rfl, ax, ex, hR, rfl⟩, subC_st hw⟩
    rintro v15 J _ ⟨hJ, x15, p, lv, he15, hmu15, hp, ⟨c15, rfl, hn15⟩, rfl⟩
    have hL := hL.trans hJ
    rw [bnd_ok he15] at hR
    have hns := hns.mono hJ
    refine l_q rfl rfl rfl (q_move rfl rfl) ?_
    refine l_q rfl rfl rfl (q_extract rfl rfl rfl) ?_
    refine l_q rfl rfl rfl (q_extract rfl rfl rfl) ?_
    refine l_e rfl rfl rfl (e_alloc rfl ti29 rfl) ?_
    rintro _ _ _ ⟨b7, rfl, rfl, rfl⟩
    refine l_e0 rfl rfl ((by first | exact e_store_all rfl ti29 rfl rfl rfl (by first | exact chC_ones _ | exact pcC_ones _ | exact nc0_ones | exact kc_ones slb_one | exact hn15.ones | exact (several_at hvf (hns.mono hJf)).ones | simp [Value.oneCell', str, u8]) rfl | exact e_store_agg rfl ti29 rfl rfl rfl (by first | exact chC_ones _ | exact pcC_ones _ | exact nc0_ones | exact kc_ones slb_one | exact hn15.ones | exact (several_at hvf (hns.mono hJf)).ones | simp [Value.oneCell', str, u8]) rfl)) ?_
    rintro _ _ _ ⟨rfl, rfl⟩
    refine l_heap (H' := row b7 29 (ncC c15) :: _) ?_ (fun _ h => h)
    refine l_q rfl rfl rfl (q_assign rfl rfl) ?_
    refine l_nil ?_
    refine n_then ?_
    refine t_seq ?_
    refine t_region ?_
    refine l_q rfl rfl rfl (q_move rfl rfl) ?_
    refine l_q rfl rfl rfl (q_load_rowA rfl Tryz.underlying29 ti29 rfl rfl rfl) ?_
    refine l_e rfl rfl rfl (e_buildSlice1 rfl Tryz.underlying27 ti29 rfl rfl rfl (by first | exact One.cells (by assumption) | exact One.cells hone | rfl) rfl) ?_
    rintro _ _ _ ⟨b20, rfl, rfl, rfl⟩
    refine l_e rfl rfl rfl (e_appendT (f := ncC) (c := c15) rfl Tryz.underlying27 ti29 rfl rfl rfl rfl rfl rfl rfl (by first | exact hn15.ones | exact byC_ones _ | exact chC_ones _ | exact pcC_ones _ | simp [Value.oneCell', str, u8] | exact ones1 (by assumption)) (by simp only [maxLen]; omega) (by omega)) ?_
    rintro v21 _ _ ⟨rfl, rfl⟩
    refine l_one v21 (fun hone => ?_)
    have hns := NdsAt.snoc hn15 hns
    refine l_q rfl rfl rfl (q_assign rfl rfl) ?_
    refine l_nil ?_
    refine n_then ?_
    refine t_seq ?_
    refine t_region ?_
    refine l_q rfl rfl rfl (q_move rfl rfl) ?_
    refine l_q rfl rfl rfl (q_move rfl rfl) ?_
    refine l_split (t := 23) rfl (fun hs0 => ?_) (fun hs0 => ?_)
    · skip
      rw [if_pos hs0, bnd_ok (show (fun q => ReR.ok true q) p = .ok true p from rfl)] at hR
      refine l_skip rfl rfl rfl rfl rfl rfl rfl ?_
      refine l_skip rfl rfl rfl rfl rfl rfl rfl ?_
      refine l_skip rfl rfl rfl rfl rfl rfl rfl ?_
      refine l_skip rfl rfl rfl rfl rfl rfl rfl ?_
      refine l_q rfl rfl rfl (q_pick rfl rfl rfl rfl) ?_
      refine l_q rfl rfl rfl (q_assign rfl rfl) ?_
      refine l_nil ?_
      refine n_then ?_
      refine t_seq ?_
      refine t_region ?_
      refine l_q rfl rfl rfl (q_move rfl rfl) ?_
      refine l_eP rfl rfl rfl (eff_callP rfl rfl rfl Tryz.func32 (by kernel_rfl) rfl (fun w hw => lines_calls b s hs p lv _ _ _ w _ rfl hp (picks_st1 (row b 53 (prC s lv p.next)) hw))) ?_ ?_
      · skip
        rintro _ Jx _ ⟨hJx, rfl, ax, ex, hbx, rfl⟩
        rw [bnd_bad hbx] at hR
        refine np_then (np_block (np_then (np_block (np_then (?_)))))
        exact np_body fun w hw => .inr ⟨_, rfl, Jx, _, ⟨hL.trans hJx, rfl, ax, ex, hR, rfl⟩, subC_st hw⟩
      rintro v30 J _ ⟨hJ, x30, p, lv, he30, hmu30, hp, ⟨rfl, hf, hk3⟩, rfl⟩
      have hL := hL.trans hJ
      rw [bnd_ok he30] at hR
      have hns := hns.mono hJ
      rw [now_filled_if hf] at hR
      refine l_nil ?_
      refine n_then ?_
      refine t_qreg ?_
      refine s_q rfl rfl rfl (q_move rfl rfl) ?_
      refine s_q rfl rfl rfl (q_move rfl rfl) ?_
      refine s_and2 2 1 32 35 34 _ _ rfl rfl rfl rfl rfl rfl (fun h35 => by
          try simp at h35
          refine s_g rfl rfl rfl rfl rfl rfl (q_move rfl rfl) ?_
          refine s_g rfl rfl rfl rfl rfl rfl (quiet_call rfl rfl rfl Tryz.func182 (by kernel_rfl) rfl ((fun w hw => beginsF_pure b s p lv w hs hf hp.1 (hp.2.1.mono hw.le) (rowI_of hw) (hp.2.2.mono hw.le)))) ?_
          exact s_val rfl
        ) (wanted_n rfl) rfl rfl rfl ?_
      refine s_q rfl rfl rfl (q_assign rfl rfl) ?_
      refine s_done ?_
      refine n_block ?_
      obtain ⟨mo2, hm3⟩ : ∃ z, beginB (headT s p) = z := ⟨_, rfl⟩
      skip
      refine n_roundE ((p, lv, J, v21, cs ++ [c15], l ++ [x15.1], g, beginB (headT s p))) ?_ ?_ (sub_cons rfl (sub_cons rfl sub_nil)) (sub_cons rfl (sub_cons rfl (sub_cons rfl sub_nil))) (fun _ h => by try dsimp only; exact subC_st h)
      · try dsimp only
        refine ⟨hL, hp, hns, by rw [List.length_append, List.length_singleton]; omega, fun h => ⟨by omega, ?_⟩, fun h => ⟨by rw [List.length_append, List.length_singleton]; omega, ?_⟩⟩
        · rw [hR, if_pos rfl, if_pos h]
        · rw [hR, if_pos rfl, if_neg (by rw [h]; simp)]
      · try dsimp only
        rw [if_pos rfl]
        split <;> omega
    · skip
      refine l_qg (wanted_g rfl rfl rfl rfl) rfl rfl (q_move rfl rfl) ?_
      refine l_egP (wanted_g rfl rfl rfl rfl) rfl rfl (eff_callP rfl rfl rfl Tryz.func33 (by kernel_rfl) rfl (fun w hw => now_calls b s hs p lv _ _ _ w _ rfl hp (picks_st1 (row b 53 (prC s lv p.next)) hw))) ?_ ?_
      · skip
        rintro _ Jx _ ⟨hJx, rfl, ax, ex, hbx, rfl⟩
        rw [if_neg (by rw [hs0]; simp), bnd_bad (ask_bad hbx)] at hR
        refine np_then (np_block (np_then (np_block (np_then (?_)))))
        exact np_body fun w hw => .inr ⟨_, rfl, Jx, _, ⟨hL.trans hJx, rfl, ax, ex, hR, rfl⟩, subC_st hw⟩
      rintro v25 J _ ⟨hJ, x25, p, lv, he25, hmu25, hp, ⟨rfl, hf, rfl⟩, rfl⟩
      have hL := hL.trans hJ
      have hns := hns.mono hJ
      rw [if_neg (by rw [hs0]; simp), bnd_ok (ask_of he25)] at hR
      obtain ⟨e0, he0⟩ : ∃ z, decide ((headT s p).kind = 3) = z := ⟨_, rfl⟩
      rw [he0] at hR
      refine l_qg (wanted_g rfl rfl rfl rfl) rfl rfl (q_field rfl Tryz.underlying79 rfl Tryz.underlying3 rfl rfl rfl) ?_
      refine l_qg (wanted_g rfl rfl rfl rfl) rfl rfl (q_eql rfl rfl rfl) ?_
      rw [show decide (((headT s p).kind : Int) = 3) = e0 by rw [← he0]; by_cases h : (headT s p).kind = 3 <;> simp [h] <;> omega]
      refine l_q rfl rfl rfl (q_pick rfl rfl rfl rfl) ?_
      refine l_q rfl rfl rfl (q_assign rfl rfl) ?_
      refine l_nil ?_
      refine n_then ?_
      refine t_seq ?_
      refine t_region ?_
      refine l_q rfl rfl rfl (q_move rfl rfl) ?_
      refine l_eP rfl rfl rfl (eff_callP rfl rfl rfl Tryz.func32 (by kernel_rfl) rfl (fun w hw => lines_calls b s hs p lv _ _ _ w _ rfl hp (picks_st1 (row b 53 (prC s lv p.next)) hw))) ?_ ?_
      · skip
        rintro _ Jx _ ⟨hJx, rfl, ax, ex, hbx, rfl⟩
        rw [bnd_bad hbx] at hR
        refine np_then (np_block (np_then (np_block (np_then (?_)))))
        exact np_body fun w hw => .inr ⟨_, rfl, Jx, _, ⟨hL.trans hJx, rfl, ax, ex, hR, rfl⟩, subC_st hw⟩
      rintro v30 J _ ⟨hJ, x30, p, lv, he30, hmu30, hp, ⟨rfl, hf, hk3⟩, rfl⟩
      have hL := hL.trans hJ
      rw [bnd_ok he30] at hR
      have hns := hns.mono hJ
      rw [now_filled_if hf] at hR
      refine l_nil ?_
      refine n_then ?_
      refine t_qreg ?_
      refine s_q rfl rfl rfl (q_move rfl rfl) ?_
      refine s_q rfl rfl rfl (q_move rfl rfl) ?_
      refine s_and2 2 1 32 35 34 _ _ rfl rfl rfl rfl rfl rfl (fun h35 => by
          try simp at h35
          refine s_g rfl rfl rfl rfl rfl rfl (q_move rfl rfl) ?_
          refine s_g rfl rfl rfl rfl rfl rfl (quiet_call rfl rfl rfl Tryz.func182 (by kernel_rfl) rfl ((fun w hw => beginsF_pure b s p lv w hs hf hp.1 (hp.2.1.mono hw.le) (rowI_of hw) (hp.2.2.mono hw.le)))) ?_
          exact s_val rfl
        ) (wanted_n rfl) rfl rfl rfl ?_
      refine s_q rfl rfl rfl (q_assign rfl rfl) ?_
      refine s_done ?_
      refine n_block ?_
      refine n_roundE ((p, lv, J, v21, cs ++ [c15], l ++ [x15.1], g, e0 && beginB (headT s p))) ?_ ?_ (sub_cons rfl (sub_cons rfl sub_nil)) (sub_cons rfl (sub_cons rfl (sub_cons rfl sub_nil))) (fun _ h => by try dsimp only; exact subC_st h)
      · try dsimp only
        refine ⟨hL, hp, hns, by rw [List.length_append, List.length_singleton]; omega, fun h => ⟨by omega, ?_⟩, fun h => ⟨by rw [List.length_append, List.length_singleton]; omega, ?_⟩⟩
        · rw [Bool.and_eq_true] at h
          rw [hR, if_pos h.1, if_pos h.2]
        · rw [Bool.and_eq_false_iff] at h
          rw [hR]
          rcases h with h | h
          · rw [if_neg (by rw [h]; simp)]
          · rw [if_neg (show ¬ beginB (headT s p) = true by rw [h]; simp), ite_self]
      · try dsimp only
        rw [if_pos rfl]
        split <;> omega
  · skip
    subst hc0
    obtain ⟨hl1, hR⟩ := hmf rfl
    refine t_exit ?_
    refine n_exit_then ?_
    refine n_exit_then ?_
    refine n_exit_block ?_
    refine n_then ?_
    refine t_seq ?_
    refine t_freezeT (f := ncC) (l := cs) v (fun _ => rfl) (fun Jf hJf hvf => ?_)
    refine t_region ?_
    refine l_q rfl rfl rfl (q_move rfl rfl) ?_
    refine l_q rfl rfl rfl (quiet_call rfl rfl rfl Tryz.func37 (by kernel_rfl) rfl ((fun w hw => several_pure v cs w (by omega) (ones_nth hns) (hvf.mono hw.le)))) ?_
    refine l_e0 rfl rfl ((by first | exact e_store_all rfl ti29 rfl rfl rfl (by first | exact chC_ones _ | exact pcC_ones _ | exact nc0_ones | exact kc_ones slb_one | exact hn15.ones | exact (several_at hvf (hns.mono hJf)).ones | simp [Value.oneCell', str, u8]) rfl | exact e_store_agg rfl ti29 rfl rfl rfl (by first | exact chC_ones _ | exact pcC_ones _ | exact nc0_ones | exact kc_ones slb_one | exact hn15.ones | exact (several_at hvf (hns.mono hJf)).ones | simp [Value.oneCell', str, u8]) rfl)) ?_
    rintro _ _ _ ⟨rfl, rfl⟩
    refine l_nil ?_
    refine n_then ?_
    refine t_ret ?_
    refine n_retGG (.inl rfl) rfl (by exact rg_row rfl Tryz.underlying29 ti29 rfl rfl (rg_nil)) (fun w' hw => ?_)
    -- leaf 0
    exact .inl ⟨_, rfl, Jf, _, ⟨hL.trans hJf, _, p, lv, hR, by omega, hp.mono hJf, ⟨_, rfl, several_at hvf (hns.mono hJf)⟩, rfl⟩, subC_st hw⟩
set_option maxRecDepth 10000 in
theorem andor_calls (b : Nat) (s : List UInt8) (hs : s.length ≤ 65536) (P : PS → ReR Nd) (d : Nat) (hC : ParC 82 b s [.int .i64 (d : Int)] P NdV 1) : ParC 54 b s [.int .i64 (d : Int)] (andorP s P) NdV 1 := by
  intro p lv I F w0 w R hR hp hw0
  have hL := Le.refl I
  obtain ⟨M, hM⟩ : ∃ M, M = muP s p := ⟨_, rfl⟩
  unfold andorP at hR
  have hm2 := mu_le hp.1
  refine enter Tryz.func54 rfl Tryz.ntmps54 rfl (hw0.self) ?_
  refine t_seq ?_
  refine t_region ?_
  refine l_e rfl rfl rfl (e_alloc rfl ti29 rfl) ?_
  rintro _ _ _ ⟨b4, rfl, rfl, rfl⟩
  refine l_heap (H' := row b4 29 (ncC nc0) :: _) ?_ (fun _ h => h)
  refine l_nil ?_
  refine n_then ?_
  refine t_seq ?_
  refine t_region ?_
  refine l_q rfl rfl rfl (q_move rfl rfl) ?_
  refine l_q rfl rfl rfl (q_move rfl rfl) ?_
  refine l_eP rfl rfl rfl (eff_callP rfl rfl rfl Tryz.func82 (by kernel_rfl) rfl (fun w hw => hC p lv _ _ _ w _ rfl hp (picks_st1 (row b 53 (prC s lv p.next)) hw))) ?_ ?_
  · skip
    rintro _ Jx _ ⟨hJx, rfl, ax, ex, hbx, rfl⟩
    rw [bnd_bad hbx] at hR
    refine np_then (?_)
    exact np_body fun w hw => .inr ⟨_, rfl, Jx, _, ⟨hL.trans hJx, rfl, ax, ex, hR, rfl⟩, subC_st hw⟩
  rintro v9 J _ ⟨hJ, x9, p, lv, he9, hmu9, hp, ⟨c9, rfl, hn9⟩, rfl⟩
  have hL := hL.trans hJ
  rw [bnd_ok he9] at hR
  refine l_e rfl rfl rfl (e_alloc rfl ti29 rfl) ?_
  rintro _ _ _ ⟨b5, rfl, rfl, rfl⟩
  refine l_e0 rfl rfl ((by first | exact e_store_all rfl ti29 rfl rfl rfl (by first | exact chC_ones _ | exact pcC_ones _ | exact nc0_ones | exact kc_ones slb_one | exact hn9.ones | exact hn.ones | simp [Value.oneCell', str, u8]) rfl | exact e_store_agg rfl ti29 rfl rfl rfl (by first | exact chC_ones _ | exact pcC_ones _ | exact nc0_ones | exact kc_ones slb_one | exact hn9.ones | exact hn.ones | simp [Value.oneCell', str, u8]) rfl)) ?_
  rintro _ _ _ ⟨rfl, rfl⟩
  refine l_heap (H' := row b5 29 (ncC c9) :: _) ?_ (fun _ h => h)
  refine l_nil ?_
  refine n_then ?_
  refine t_seq ?_
  refine t_block ?_
  refine t_loopE (ι := PS × Value × Look × NC × Nd × Nat) (fun zz => Le I zz.2.2.1 ∧ PSt s zz.1 zz.2.1 zz.2.2.1 ∧ NdAt zz.2.2.1 zz.2.2.2.2.1 zz.2.2.2.1 ∧ muP s zz.1 + 1 ≤ M ∧ muP s zz.1 < zz.2.2.2.2.2 ∧ R = andorN s P zz.2.2.2.2.2 zz.2.2.2.2.1 zz.1) (fun zz => muP s zz.1) (fun zz => []) [(0, _), (1, _), (4, _), (5, _)] (fun zz => zz.2.2.1) (fun zz => (row b5 29 (ncC zz.2.2.2.1) :: row b4 29 (ncC nc0) :: row b 53 (prC s zz.2.1 zz.1.next) :: F)) (p, lv, J, c9, x9, muP s p + 1) ?_ (sub_nil) (sub_cons rfl (sub_cons rfl (sub_cons rfl (sub_cons rfl sub_nil)))) (fun _ h => subC_st h) ?_
  · try dsimp only
    exact ⟨hL, hp, hn9, by omega, Nat.lt_succ_self _, hR⟩
  rintro ⟨p, lv, J, c, n, g⟩ ⟨hL, hp, hn, hmu, hg, hR⟩
  try dsimp only at *
  obtain ⟨g, rfl⟩ : ∃ g', g = g' + 1 := ⟨g - 1, by omega⟩
  rw [andorN] at hR
  obtain ⟨m1, hm1⟩ : ∃ z, z = muP s p := ⟨_, rfl⟩
  refine t_seq ?_
  refine t_seq ?_
  refine t_region ?_
  refine l_q rfl rfl rfl (q_move rfl rfl) ?_
  refine l_eP rfl rfl rfl (eff_callP rfl rfl rfl Tryz.func55 (by kernel_rfl) rfl (fun w hw => op_calls b s hs [38, 38] p lv _ _ _ w _ rfl hp (picks_st1 (row b 53 (prC s lv p.next)) hw))) ?_ ?_
  · skip
    rintro _ Jx _ ⟨hJx, rfl, ax, ex, hbx, rfl⟩
    rw [bnd_bad hbx] at hR
    refine np_then (np_then (np_then (np_block (np_then (?_)))))
    exact np_body fun w hw => .inr ⟨_, rfl, Jx, _, ⟨hL.trans hJx, rfl, ax, ex, hR, rfl⟩, subC_st hw⟩
  rintro v11 J _ ⟨hJ, x11, p, lv, he11, hmu11, hp, ⟨rfl, hf, rfl⟩, rfl⟩
  have hL := hL.trans hJ
  rw [bnd_ok he11] at hR
  have hn := hn.mono hJ
  refine l_quietHead 4 ?_
  refine s_q rfl rfl rfl (q_move rfl rfl) ?_
  refine s_or2 2 2 12 15 14 _ _ rfl rfl rfl rfl rfl rfl (fun h15 => by
      try simp at h15
      refine s_g rfl rfl rfl rfl rfl rfl (q_move rfl rfl) ?_
      refine s_g rfl rfl rfl rfl rfl rfl (quiet_call rfl rfl rfl Tryz.func55 (by kernel_rfl) rfl ((fun w hw => opF_pure b s [124, 124] p lv w hs hf hp.1 (rowI_of hw) (hp.2.2.mono hw.le)))) ?_
      exact s_val rfl
    ) (wanted_n rfl) rfl rfl rfl ?_
  refine s_list ?_
  refine l_nil ?_
  refine n_then ?_
  refine t_cond rfl (fun hc0 => ?_) (fun hc0 => ?_)
  · skip
    have hcc : (opB [38, 38] (headT s p) || opB [124, 124] (headT s p)) = true := hc0
    rw [if_pos hcc] at hR
    have hk0 : (headT s p).kind ≠ 0 := by rw [Bool.or_eq_true] at hcc; rcases hcc with h | h <;> exact opB_kind h
    obtain ⟨tt, htt⟩ : ∃ z, headT s p = z := ⟨_, rfl⟩
    rw [htt] at hR
    have hk0 := hk0
    refine t_skip ?_
    refine n_then ?_
    refine t_block ?_
    refine t_seq ?_
    refine t_region ?_
    refine l_q rfl rfl rfl (q_assign rfl rfl) ?_
    refine l_nil ?_
    refine n_then ?_
    refine t_cutE (ι := PS × Value × Look × Nat) (fun zz => Le I zz.2.2.1 ∧ PSt s zz.1 zz.2.1 zz.2.2.1 ∧ NdAt zz.2.2.1 n c ∧ muP s zz.1 + 1 ≤ m1 ∧ R = bnd (linesP s) (fun _ r => bnd P (fun m r => andorN s P g (ndK zz.2.2.2 [n, m]) r) r) zz.1) (fun zz => [(6, .int .i64 (zz.2.2.2 : Int))]) [(0, _), (1, _), (4, _), (5, _), (15, _)] (fun zz => zz.2.2.1) (fun zz => (row b5 29 (ncC c) :: row b4 29 (ncC nc0) :: row b 53 (prC s zz.2.1 zz.1.next) :: F)) (sub_cons rfl (sub_cons rfl (sub_cons rfl (sub_cons rfl (sub_cons rfl sub_nil))))) ?_ ?_
    · skip
      refine t_seq ?_
      refine t_region ?_
      refine l_q rfl rfl rfl (q_move rfl rfl) ?_
      refine l_e rfl rfl rfl (eff_call rfl rfl rfl Tryz.func36 (by kernel_rfl) rfl (fun w hw => stepF_calls b s hs p lv _ _ _ w hf hp (picks_st1 (row b 53 (prC s lv p.next)) hw))) ?_
      rintro _ J _ ⟨hJ, rfl, p, lv, hst17, hma17, hmb17, hp, rfl⟩
      have hL := hL.trans hJ
      rw [← hst17] at hR
      have hmb := hmb17 hk0
      have hn := hn.mono hJ
      refine l_q rfl rfl rfl (q_field rfl Tryz.underlying79 rfl Tryz.underlying9 rfl rfl rfl) ?_
      refine l_q rfl rfl rfl (q_eql_str rfl rfl rfl) ?_
      refine l_nil ?_
      refine n_then ?_
      refine t_cond rfl (fun hc1 => ?_) (fun hc1 => ?_)
      · skip
        rw [if_pos (by rw [← htt]; exact of_decide_eq_true hc1)] at hR
        refine t_region ?_
        refine l_q rfl rfl rfl (q_assign rfl rfl) ?_
        refine l_nil ?_
        refine n_cut ((p, lv, J, 4)) ?_ (sub_cons rfl sub_nil) (sub_cons rfl (sub_cons rfl (sub_cons rfl (sub_cons rfl (sub_cons rfl sub_nil))))) (fun _ h => by try dsimp only; exact subC_st h)
        · try dsimp only
          exact ⟨hL, hp, hn, by omega, hR⟩
      · skip
        rw [if_neg (by rw [← htt]; exact of_decide_eq_false hc1)] at hR
        refine t_skip ?_
        refine n_cut ((p, lv, J, 3)) ?_ (sub_cons rfl sub_nil) (sub_cons rfl (sub_cons rfl (sub_cons rfl (sub_cons rfl (sub_cons rfl sub_nil))))) (fun _ h => by try dsimp only; exact subC_st h)
        · try dsimp only
          exact ⟨hL, hp, hn, by omega, hR⟩
    rintro ⟨p, lv, J, kk⟩ ⟨hL, hp, hn, hmc, hR⟩
    try dsimp only at *
    refine t_seq ?_
    refine t_region ?_
    refine l_q rfl rfl rfl (q_move rfl rfl) ?_
    refine l_eP rfl rfl rfl (eff_callP rfl rfl rfl Tryz.func32 (by kernel_rfl) rfl (fun w hw => lines_calls b s hs p lv _ _ _ w _ rfl hp (picks_st1 (row b 53 (prC s lv p.next)) hw))) ?_ ?_
    · skip
      rintro _ Jx _ ⟨hJx, rfl, ax, ex, hbx, rfl⟩
      rw [bnd_bad hbx] at hR
      refine np_then (np_block (np_then (np_block (np_then (?_)))))
      exact np_body fun w hw => .inr ⟨_, rfl, Jx, _, ⟨hL.trans hJx, rfl, ax, ex, hR, rfl⟩, subC_st hw⟩
    rintro v21 J _ ⟨hJ, x21, p, lv, he21, hmu21, hp, ⟨rfl, hf, hk3⟩, rfl⟩
    have hL := hL.trans hJ
    rw [bnd_ok he21] at hR
    have hn := hn.mono hJ
    refine l_nil ?_
    refine n_then ?_
    refine t_draw [4, 5, 7] [7] [row b5 29 (ncC c)] mo (by kernel_rfl) (fun _ _ _ _ _ h => h) ?_
    refine r_q0 0 (by kernel_rfl) rfl (Le.refl _) rfl rfl rfl (fun _ hI => q_move rfl rfl) ?_
    refine r_q0 1 (by kernel_rfl) rfl (Le.refl _) rfl rfl rfl (fun _ hI => q_load_rowA rfl Tryz.underlying29 ti29 rfl rfl rfl) ?_
    refine r_q1 2 (by kernel_rfl) rfl (Le.refl _) rfl rfl rfl (q_move rfl rfl) ?_
    refine r_q1 3 (by kernel_rfl) rfl (Le.refl _) rfl rfl rfl (q_move rfl rfl) ?_
    refine r_eP 4 (by kernel_rfl) (by kernel_rfl) rfl (Le.refl _) rfl rfl rfl (eff_callP rfl rfl rfl Tryz.func82 (by kernel_rfl) rfl (fun w hw => hC p lv _ _ _ w _ rfl hp (picks_st1 (row b 53 (prC s lv p.next)) hw))) ?_ ?_
    · skip
      rintro _ Jx _ ⟨hJx, rfl, ax, ex, hbx, rfl⟩
      rw [bnd_bad hbx] at hR
      refine np_block (np_then (np_block (np_then (?_))))
      exact np_body fun w hw => .inr ⟨_, rfl, Jx, _, ⟨hL.trans hJx, rfl, ax, ex, hR, rfl⟩, subC_st hw⟩
    rintro v26 J _ ⟨hJ, x26, p, lv, he26, hmu26, hp, ⟨c26, rfl, hn26⟩, rfl⟩
    refine ⟨hJ, .inr SubC.sub, ?_⟩
    have hL := hL.trans hJ
    rw [bnd_ok he26] at hR
    have hn := hn.mono hJ
    refine r_e 5 (by kernel_rfl) (by kernel_rfl) rfl (hJ) rfl rfl rfl (e_buildSliceN (vs := [_, _]) (css := [ncC c, ncC c26]) rfl Tryz.underlying27 ti29 rfl rfl rfl rfl (rfl) (by simp [ncC])) ?_
    rintro _ _ _ ⟨b27, rfl, rfl, rfl⟩
    refine ⟨Le.refl _, .inr SubC.sub, ?_⟩
    refine r_heap (H' := tvec 29 7 ncC (.slice (some ⟨b27, 0, none⟩) 2 2) [c, c26] :: _) ?_ (fun _ h => st_rowVec h rfl (by decide))
    refine r_q0 6 (by kernel_rfl) rfl (hJ) rfl rfl rfl (fun _ hI => q_build (pl := [(_, _), (_, _), (_, _), (_, _), (_, _), (_, _), (_, _)]) (cs := (ncC ⟨kk, false, false, [], nilS', nilS', (.slice (some ⟨b27, 0, none⟩) 2 2)⟩).toArray) rfl Tryz.underlying29 ti29 ⟨rfl, ⟨_, _, ti3⟩, rfl, ⟨_, _, ti4⟩, rfl, ⟨_, _, ti4⟩, rfl, ⟨_, _, ti9⟩, rfl, ⟨_, _, ti25⟩, rfl, ⟨_, _, ti26⟩, rfl, ⟨_, _, ti27⟩, trivial⟩ rfl rfl) ?_
    refine r_e0 7 (by kernel_rfl) (by kernel_rfl) rfl (hJ) rfl rfl ((by first | exact e_store_all rfl ti29 rfl rfl rfl (by first | exact chC_ones _ | exact pcC_ones _ | exact nc0_ones | exact kc_ones slb_one | exact hn9.ones | exact hn.ones | simp [Value.oneCell', str, u8]) rfl | exact e_store_agg rfl ti29 rfl rfl rfl (by first | exact chC_ones _ | exact pcC_ones _ | exact nc0_ones | exact kc_ones slb_one | exact hn9.ones | exact hn.ones | simp [Value.oneCell', str, u8]) rfl)) ?_
    rintro _ _ _ ⟨rfl, rfl⟩
    refine ⟨Le.refl _, .inl rfl, ?_⟩
    refine r_heap (H' := row b5 29 (ncC ⟨kk, false, false, [], nilS', nilS', (.slice (some ⟨b27, 0, none⟩) 2 2)⟩) :: _) ?_ (fun _ h => h)
    refine r_end (by kernel_rfl) ?_
    refine n_block ?_
    refine n_freezeT (f := ncC) (l := [c, c26]) (.slice (some ⟨b27, 0, none⟩) 2 2) (fun _ => rfl) (fun Jf hJf hvf => ?_)
    refine n_roundE ((p, lv, Jf, ⟨kk, false, false, [], nilS', nilS', (.slice (some ⟨b27, 0, none⟩) 2 2)⟩, ndK kk [n, x26], g)) ?_ ?_ (sub_nil) (sub_cons rfl (sub_cons rfl (sub_cons rfl (sub_cons rfl sub_nil)))) (fun _ h => by try dsimp only; exact subC_st h)
    · try dsimp only
      exact ⟨hL.trans hJf, hp.mono hJf, NdAt.kids hvf (NdsAt.snoc (hn26.mono hJf) (NdsAt.one (hn.mono hJf))), by omega, by omega, hR⟩
    · try dsimp only
      omega
  · skip
    have hcc : (opB [38, 38] (headT s p) || opB [124, 124] (headT s p)) = false := hc0
    rw [if_neg (by rw [hcc]; simp)] at hR
    refine t_exit ?_
    refine n_exit_then ?_
    refine n_exit_then ?_
    refine n_exit_block ?_
    refine n_then ?_
    refine t_seq ?_
    refine t_region ?_
    refine l_q rfl rfl rfl (q_load_rowA rfl Tryz.underlying29 ti29 rfl rfl rfl) ?_
    refine l_e0 rfl rfl ((by first | exact e_store_all rfl ti29 rfl rfl rfl (by first | exact chC_ones _ | exact pcC_ones _ | exact nc0_ones | exact kc_ones slb_one | exact hn9.ones | exact hn.ones | simp [Value.oneCell', str, u8]) rfl | exact e_store_agg rfl ti29 rfl rfl rfl (by first | exact chC_ones _ | exact pcC_ones _ | exact nc0_ones | exact kc_ones slb_one | exact hn9.ones | exact hn.ones | simp [Value.oneCell', str, u8]) rfl)) ?_
    rintro _ _ _ ⟨rfl, rfl⟩
    refine l_heap (H' := row b4 29 (ncC c) :: _) ?_ (fun _ h => h)
    refine l_nil ?_
    refine n_then ?_
    refine t_ret ?_
    refine n_retGG (.inl rfl) rfl (by exact rg_row rfl Tryz.underlying29 ti29 rfl rfl (rg_nil)) (fun w' hw => ?_)
    -- leaf 0
    exact .inl ⟨_, rfl, J, _, ⟨hL, _, p, lv, hR, (by omega), hp, ⟨_, rfl, hn⟩, rfl⟩, subC_st hw⟩
end Go.Tri

/-
  The parser: pipelines, commands.
-/
namespace Go.Tri
open Go.Proofs Go.RowKit
set_option maxRecDepth 10000 in
theorem pipeline_calls (b : Nat) (s : List UInt8) (hs : s.length ≤ 65536) (C : PS → ReR Nd) (d : Nat) (hC : ParC 109 b s [.int .i64 (d : Int)] C NdV 1) : ParC 82 b s [.int .i64 (d : Int)] (pipeP s C) NdV 1 := by
  intro p lv I F w0 w R hR hp hw0
  have hL := Le.refl I
  obtain ⟨M, hM⟩ : ∃ M, M = muP s p := ⟨_, rfl⟩
  unfold pipeP at hR
  have hm2 := mu_le hp.1
  refine enter Tryz.func82 rfl Tryz.ntmps82 rfl (hw0.self) ?_
  refine t_seq ?_
  refine t_region ?_
  refine l_e rfl rfl rfl (e_alloc rfl ti29 rfl) ?_
  rintro _ _ _ ⟨b4, rfl, rfl, rfl⟩
  refine l_heap (H' := row b4 29 (ncC nc0) :: _) ?_ (fun _ h => h)
  refine l_nil ?_
  refine n_then ?_
  refine t_seq ?_
  refine t_region ?_
  refine l_q rfl rfl rfl (q_move rfl rfl) ?_
  refine l_eP rfl rfl rfl (eff_callP rfl rfl rfl Tryz.func108 (by kernel_rfl) rfl (fun w hw => key_calls b s hs [33] p lv _ _ _ w _ rfl hp (picks_st1 (row b 53 (prC s lv p.next)) hw))) ?_ ?_
  · skip
    rintro _ Jx _ ⟨hJx, rfl, ax, ex, hbx, rfl⟩
    rw [bnd_bad hbx] at hR
    refine np_then (?_)
    exact np_body fun w hw => .inr ⟨_, rfl, Jx, _, ⟨hL.trans hJx, rfl, ax, ex, hR, rfl⟩, subC_st hw⟩
  rintro v8 J _ ⟨hJ, x8, p, lv, he8, hmu8, hp, ⟨rfl, hf, rfl⟩, rfl⟩
  have hL := hL.trans hJ
  rw [bnd_ok he8] at hR
  obtain ⟨nt, hnt⟩ : ∃ z, keyB [33] (headT s p) = z := ⟨_, rfl⟩
  rw [hnt] at hR ⊢
  refine l_q rfl rfl rfl (q_assign rfl rfl) ?_
  refine l_nil ?_
  refine n_then ?_
  refine t_cutE (ι := PS × Value × Look) (fun zz => Le I zz.2.2 ∧ PSt s zz.1 zz.2.1 zz.2.2 ∧ muP s zz.1 ≤ M ∧ R = bnd C (fun n r => bnd (pipeN s C (muP s r + 1) [n]) (fun l r => .ok (pipeR nt l) r) r) zz.1) (fun zz => []) [(0, _), (1, _), (4, _), (5, _)] (fun zz => zz.2.2) (fun zz => (row b4 29 (ncC nc0) :: row b 53 (prC s zz.2.1 zz.1.next) :: F)) (sub_cons rfl (sub_cons rfl (sub_cons rfl (sub_cons rfl sub_nil)))) ?_ ?_
  · skip
    refine t_seq ?_
    refine t_region ?_
    refine l_q rfl rfl rfl (q_move rfl rfl) ?_
    refine l_nil ?_
    refine n_then ?_
    refine t_cond rfl (fun hc0 => ?_) (fun hc0 => ?_)
    · skip
      refine t_region ?_
      refine l_q rfl rfl rfl (q_move rfl rfl) ?_
      refine l_e rfl rfl rfl (eff_call rfl rfl rfl Tryz.func36 (by kernel_rfl) rfl (fun w hw => stepF_calls b s hs p lv _ _ _ w hf hp (picks_st1 (row b 53 (prC s lv p.next)) hw))) ?_
      rintro _ J _ ⟨hJ, rfl, p, lv, hst11, hma11, hmb11, hp, rfl⟩
      have hL := hL.trans hJ
      rw [if_pos hc0, ← hst11] at hR
      refine l_nil ?_
      refine n_cut ((p, lv, J)) ?_ (sub_nil) (sub_cons rfl (sub_cons rfl (sub_cons rfl (sub_cons rfl sub_nil)))) (fun _ h => by try dsimp only; exact subC_st h)
      · try dsimp only
        exact ⟨hL, hp, by omega, hR⟩
    · skip
      refine t_skip ?_
      rw [if_neg (by rw [show nt = false from hc0]; simp)] at hR
      refine n_cut ((p, lv, J)) ?_ (sub_nil) (sub_cons rfl (sub_cons rfl (sub_cons rfl (sub_cons rfl sub_nil)))) (fun _ h => by try dsimp only; exact subC_st h)
      · try dsimp only
        exact ⟨hL, hp, by omega, hR⟩
  rintro ⟨p, lv, J⟩ ⟨hL, hp, hmc, hR⟩
  try dsimp only at *
  refine t_seq ?_
  refine t_region ?_
  refine l_q rfl rfl rfl (q_move rfl rfl) ?_
  refine l_q rfl rfl rfl (q_move rfl rfl) ?_
  refine l_eP rfl rfl rfl (eff_callP rfl rfl rfl Tryz.func109 (by kernel_rfl) rfl (fun w hw => hC p lv _ _ _ w _ rfl hp (picks_st1 (row b 53 (prC s lv p.next)) hw))) ?_ ?_
  · skip
    rintro _ Jx _ ⟨hJx, rfl, ax, ex, hbx, rfl⟩
    rw [bnd_bad hbx] at hR
    refine np_then (?_)
    exact np_body fun w hw => .inr ⟨_, rfl, Jx, _, ⟨hL.trans hJx, rfl, ax, ex, hR, rfl⟩, subC_st hw⟩
  rintro v14 J _ ⟨hJ, x14, p, lv, he14, hmu14, hp, ⟨c14, rfl, hn14⟩, rfl⟩
  have hL := hL.trans hJ
  rw [bnd_ok he14] at hR
  refine l_e rfl rfl rfl (e_buildSlice1 rfl Tryz.underlying27 ti29 rfl rfl rfl (by first | exact One.cells (by assumption) | exact One.cells hone | exact One.cells hvf.one | rfl) rfl) ?_
  rintro _ _ _ ⟨b15, rfl, rfl, rfl⟩
  refine l_heap (H' := tvec 29 7 ncC (.slice (some ⟨b15, 0, none⟩) 1 1) [c14] :: _) ?_ (fun _ h => st_rowVec h rfl (by decide))
  refine l_q rfl rfl rfl (q_assign rfl rfl) ?_
  refine l_nil ?_
  refine n_then ?_
  refine t_seq ?_
  refine t_block ?_
  refine t_loopE (ι := PS × Value × Look × Value × List NC × List Nd × Nat) (fun zz => Le I zz.2.2.1 ∧ PSt s zz.1 zz.2.1 zz.2.2.1 ∧ NdsAt zz.2.2.1 zz.2.2.2.2.2.1 zz.2.2.2.2.1 ∧ muP s zz.1 + zz.2.2.2.2.2.1.length ≤ M ∧ 1 ≤ zz.2.2.2.2.2.1.length ∧ muP s zz.1 < zz.2.2.2.2.2.2 ∧ R = bnd (pipeN s C zz.2.2.2.2.2.2 zz.2.2.2.2.2.1) (fun y r => .ok (pipeR nt y) r) zz.1) (fun zz => muP s zz.1) (fun zz => [(6, zz.2.2.2.1)]) [(0, _), (1, _), (4, _), (5, _)] (fun zz => zz.2.2.1) (fun zz => (tvec 29 7 ncC zz.2.2.2.1 zz.2.2.2.2.1 :: row b4 29 (ncC nc0) :: row b 53 (prC s zz.2.1 zz.1.next) :: F)) (p, lv, J, (.slice (some ⟨b15, 0, none⟩) 1 1), [c14], [x14], muP s p + 1) ?_ (sub_cons rfl sub_nil) (sub_cons rfl (sub_cons rfl (sub_cons rfl (sub_cons rfl sub_nil)))) (fun _ h => subC_st h) ?_
  · try dsimp only
    exact ⟨hL, hp, NdsAt.one hn14, by simp only [List.length_singleton]; omega, Nat.le_refl _, Nat.lt_succ_self _, hR⟩
  rintro ⟨p, lv, J, v, cs, l, g⟩ ⟨hL, hp, hns, hmu, hl1, hg, hR⟩
  try dsimp only at *
  have hcl := hns.len
  obtain ⟨g, rfl⟩ : ∃ g', g = g' + 1 := ⟨g - 1, by omega⟩
  rw [bnd_v, pipeN] at hR
  refine t_seq ?_
  refine t_seq ?_
  refine t_region ?_
  refine l_q rfl rfl rfl (q_move rfl rfl) ?_
  refine l_eP rfl rfl rfl (eff_callP rfl rfl rfl Tryz.func55 (by kernel_rfl) rfl (fun w hw => op_calls b s hs [124] p lv _ _ _ w _ rfl hp (picks_st1 (row b 53 (prC s lv p.next)) hw))) ?_ ?_
  · skip
    rintro _ Jx _ ⟨hJx, rfl, ax, ex, hbx, rfl⟩
    rw [bnd_bad hbx] at hR
    refine np_then (np_then (np_then (np_block (np_then (?_)))))
    exact np_body fun w hw => .inr ⟨_, rfl, Jx, _, ⟨hL.trans hJx, rfl, ax, ex, hR, rfl⟩, subC_st hw⟩
  rintro v17 J _ ⟨hJ, x17, p, lv, he17, hmu17, hp, ⟨rfl, hf, rfl⟩, rfl⟩
  have hL := hL.trans hJ
  rw [bnd_ok he17] at hR
  have hns := hns.mono hJ
  refine l_nil ?_
  refine n_then ?_
  refine t_cond rfl (fun hc1 => ?_) (fun hc1 => ?_)
  · skip
    have h1 : opB [124] (headT s p) = true := hc1
    rw [if_pos h1] at hR
    refine t_skip ?_
    refine n_then ?_
    refine t_block ?_
    refine t_seq ?_
    refine t_region ?_
    refine l_q rfl rfl rfl (q_move rfl rfl) ?_
    refine l_e rfl rfl rfl (eff_call rfl rfl rfl Tryz.func36 (by kernel_rfl) rfl (fun w hw => stepF_calls b s hs p lv _ _ _ w hf hp (picks_st1 (row b 53 (prC s lv p.next)) hw))) ?_
    rintro _ J _ ⟨hJ, rfl, p, lv, hst19, hma19, hmb19, hp, rfl⟩
    have hL := hL.trans hJ
    rw [← hst19] at hR
    have hmb := hmb19 (opB_kind h1)
    have hns := hns.mono hJ
    refine l_nil ?_
    refine n_then ?_
    refine t_seq ?_
    refine t_region ?_
    refine l_q rfl rfl rfl (q_move rfl rfl) ?_
    refine l_eP rfl rfl rfl (eff_callP rfl rfl rfl Tryz.func32 (by kernel_rfl) rfl (fun w hw => lines_calls b s hs p lv _ _ _ w _ rfl hp (picks_st1 (row b 53 (prC s lv p.next)) hw))) ?_ ?_
    · skip
      rintro _ Jx _ ⟨hJx, rfl, ax, ex, hbx, rfl⟩
      rw [bnd_bad hbx] at hR
      refine np_then (np_block (np_then (np_block (np_then (?_)))))
      exact np_body fun w hw => .inr ⟨_, rfl, Jx, _, ⟨hL.trans hJx, rfl, ax, ex, hR, rfl⟩, subC_st hw⟩
    rintro v21 J _ ⟨hJ, x21, p, lv, he21, hmu21, hp, ⟨rfl, hf, hk3⟩, rfl⟩
    have hL := hL.trans hJ
    rw [bnd_ok he21] at hR
    have hns := hns.mono hJ
    refine l_nil ?_
    refine n_then ?_
    refine t_region ?_
    refine l_q rfl rfl rfl (q_move rfl rfl) ?_
    refine l_q rfl rfl rfl (q_move rfl rfl) ?_
    refine l_q rfl rfl rfl (q_move rfl rfl) ?_
    refine l_eP rfl rfl rfl (eff_callP rfl rfl rfl Tryz.func109 (by kernel_rfl) rfl (fun w hw => hC p lv _ _ _ w _ rfl hp (picks_st1 (row b 53 (prC s lv p.next)) hw))) ?_ ?_
    · skip
      rintro _ Jx _ ⟨hJx, rfl, ax, ex, hbx, rfl⟩
      rw [bnd_bad hbx] at hR
      refine np_block (np_then (np_block (np_then (?_))))
      exact np_body fun w hw => .inr ⟨_, rfl, Jx, _, ⟨hL.trans hJx, rfl, ax, ex, hR, rfl⟩, subC_st hw⟩
    rintro v25 J _ ⟨hJ, x25, p, lv, he25, hmu25, hp, ⟨c25, rfl, hn25⟩, rfl⟩
    have hL := hL.trans hJ
    rw [bnd_ok he25] at hR
    have hns := hns.mono hJ
    refine l_e rfl rfl rfl (e_buildSlice1 rfl Tryz.underlying27 ti29 rfl rfl rfl (by first | exact One.cells (by assumption) | exact One.cells hone | exact One.cells hvf.one | rfl) rfl) ?_
    rintro _ _ _ ⟨b26, rfl, rfl, rfl⟩
    refine l_e rfl rfl rfl (e_appendT (f := ncC) (c := c25) rfl Tryz.underlying27 ti29 rfl rfl rfl rfl rfl rfl rfl (by first | exact hn25.ones | exact byC_ones _ | exact chC_ones _ | exact pcC_ones _ | simp [Value.oneCell', str, u8] | exact ones1 (by assumption)) (by simp only [maxLen]; omega) (by omega)) ?_
    rintro v27 _ _ ⟨rfl, rfl⟩
    refine l_one v27 (fun hone => ?_)
    refine l_q rfl rfl rfl (q_assign rfl rfl) ?_
    refine l_nil ?_
    refine n_block ?_
    refine n_roundE ((p, lv, J, v27, cs ++ [c25], l ++ [x25], g)) ?_ ?_ (sub_cons rfl sub_nil) (sub_cons rfl (sub_cons rfl (sub_cons rfl (sub_cons rfl sub_nil)))) (fun _ h => by try dsimp only; exact subC_st h)
    · try dsimp only
      exact ⟨hL, hp, NdsAt.snoc hn25 hns, by rw [List.length_append, List.length_singleton]; omega, by rw [List.length_append, List.length_singleton]; omega, by omega, hR⟩
    · try dsimp only
      omega
  · skip
    have h1 : ¬ opB [124] (headT s p) = true := by rw [show opB [124] (headT s p) = false from hc1]; simp
    rw [if_neg h1] at hR
    refine t_exit ?_
    refine n_exit_then ?_
    refine n_exit_then ?_
    refine n_exit_block ?_
    refine n_then ?_
    refine t_seq ?_
    refine t_seq ?_
    refine t_freezeT (f := ncC) (l := cs) v (fun _ => rfl) (fun Jf hJf hvf => ?_)
    have hns := hns.mono hJf
    refine t_qreg ?_
    refine s_q rfl rfl rfl (q_move rfl rfl) ?_
    refine s_q rfl rfl rfl ((by first | exact q_lenV rfl Tryz.underlying27 rfl | exact q_len rfl Tryz.underlying27 rfl (Sl.lenOf hvf (List.length_map _)))) ?_
    refine s_q rfl rfl rfl (q_eql rfl rfl rfl) ?_
    refine s_q rfl rfl rfl (q_move rfl rfl) ?_
    refine s_and2 2 3 31 34 33 _ _ rfl rfl rfl rfl rfl rfl (fun h34 => by
        try simp at h34
        refine s_g rfl rfl rfl rfl rfl rfl (q_move rfl rfl) ?_
        refine s_g rfl rfl rfl rfl rfl rfl (q_not rfl rfl) ?_
        exact s_val rfl
      ) (wanted_n rfl) rfl rfl rfl ?_
    refine s_done ?_
    refine n_then ?_
    refine t_cond rfl (fun hc2 => ?_) (fun hc2 => ?_)
    · skip
      obtain ⟨hq1, hq2⟩ := pipe_one hns hc2
      refine t_seq ?_
      refine t_region ?_
      refine l_q rfl rfl rfl (q_move rfl rfl) ?_
      refine l_q rfl rfl rfl ((by first | exact q_indexAddrVN rfl Tryz.underlying27 ti29 rfl rfl (by omega) | exact q_indexAddrN rfl Tryz.underlying27 ti29 rfl rfl (Sl.shape hvf (List.length_map _)) (by omega) | exact q_indexAddrV rfl Tryz.underlying27 ti29 rfl rfl (by omega) | exact q_indexAddr rfl Tryz.underlying27 ti29 rfl rfl (Sl.shape hvf (List.length_map _)) (by omega))) ?_
      refine l_q rfl rfl rfl ((by first | exact q_load_rowA rfl Tryz.underlying29 ti29 rfl rfl rfl | exact q_load_agg rfl Tryz.underlying29 ti29 rfl rfl (hvf.rds (i := 0) (map_getD cs ncC nc0 (by omega))))) ?_
      refine l_e0 rfl rfl ((by first | exact e_store_all rfl ti29 rfl rfl rfl (by first | exact chC_ones _ | exact pcC_ones _ | exact nc0_ones | exact kc_ones slb_one | exact ones_nth hns | exact kc_ones hvf.one | simp [Value.oneCell', str, u8]) rfl | exact e_store_agg rfl ti29 rfl rfl rfl (by first | exact chC_ones _ | exact pcC_ones _ | exact nc0_ones | exact kc_ones slb_one | exact ones_nth hns | exact kc_ones hvf.one | simp [Value.oneCell', str, u8]) rfl)) ?_
      rintro _ _ _ ⟨rfl, rfl⟩
      refine l_nil ?_
      refine n_then ?_
      refine t_ret ?_
      refine n_ret_then ?_
      refine n_retGG (.inl rfl) rfl (by exact rg_row rfl Tryz.underlying29 ti29 rfl rfl (rg_nil)) (fun w' hw => ?_)
      -- leaf 0
      exact .inl ⟨_, rfl, Jf, _, ⟨hL.trans hJf, _, p, lv, hR, by omega, hp.mono hJf, ⟨_, rfl, hq1⟩, rfl⟩, subC_st hw⟩
    · skip
      have hq := pipe_many hns hc2
      refine t_skip ?_
      refine n_then ?_
      refine t_seq ?_
      refine t_region ?_
      refine l_q rfl rfl rfl (q_move rfl rfl) ?_
      refine l_q rfl rfl rfl (q_move rfl rfl) ?_
      refine l_q rfl rfl rfl (q_build (pl := [(_, _), (_, _), (_, _), (_, _), (_, _), (_, _), (_, _)]) (cs := (ncC ⟨2, nt, false, [], nilS', nilS', v⟩).toArray) rfl Tryz.underlying29 ti29 ⟨rfl, ⟨_, _, ti3⟩, rfl, ⟨_, _, ti4⟩, rfl, ⟨_, _, ti4⟩, rfl, ⟨_, _, ti9⟩, rfl, ⟨_, _, ti25⟩, rfl, ⟨_, _, ti26⟩, rfl, ⟨_, _, ti27⟩, trivial⟩ rfl (by obtain ⟨A, c, h⟩ := Sl.lenOf hvf rfl; rw [h]; rfl)) ?_
      refine l_e0 rfl rfl ((by first | exact e_store_all rfl ti29 rfl rfl rfl (by first | exact chC_ones _ | exact pcC_ones _ | exact nc0_ones | exact kc_ones slb_one | exact ones_nth hns | exact kc_ones hvf.one | simp [Value.oneCell', str, u8]) rfl | exact e_store_agg rfl ti29 rfl rfl rfl (by first | exact chC_ones _ | exact pcC_ones _ | exact nc0_ones | exact kc_ones slb_one | exact ones_nth hns | exact kc_ones hvf.one | simp [Value.oneCell', str, u8]) rfl)) ?_
      rintro _ _ _ ⟨rfl, rfl⟩
      refine l_nil ?_
      refine n_then ?_
      refine t_ret ?_
      refine n_retGG (.inl rfl) rfl (by exact rg_row rfl Tryz.underlying29 ti29 rfl rfl (rg_nil)) (fun w' hw => ?_)
      -- leaf 1
      refine .inl ⟨_, rfl, Jf, _, ⟨hL.trans hJf, _, p, lv, hR, by omega, hp.mono hJf, ⟨_, rfl, ?_⟩, rfl⟩, subC_st hw⟩
      rw [hq]
      exact NdAt.kids hvf hns
set_option maxRecDepth 10000 in
theorem command_calls (b : Nat) (s : List UInt8) (hs : s.length ≤ 65536) (n d : Nat) (hn : 25 - d = n) (hd : d ≤ 25) (hK : ∀ m, n = m + 1 → ParC 135 b s [.int .i64 (d : Int)] (lvC s (m + 1)).2 NdV 1) (hS : ∀ m, n = m + 1 → ParC 136 b s [.int .i64 (d : Int)] (simpP s (fnP (lvC s m).2)) NdV 1) : ParC 109 b s [.int .i64 (d : Int)] (lvC s n).1 NdV 1 := by
  intro p lv I F w0 w R hR hp hw0
  have hL := Le.refl I
  obtain ⟨M, hM⟩ : ∃ M, M = muP s p := ⟨_, rfl⟩
  obtain ⟨k, hk1, hk2, hk3⟩ := lvC_now s n
  rw [hk1] at hR
  refine enter Tryz.func109 rfl Tryz.ntmps109 rfl (hw0.self) ?_
  refine t_seq ?_
  refine t_region ?_
  refine l_e rfl rfl rfl (e_alloc rfl ti29 rfl) ?_
  rintro _ _ _ ⟨b4, rfl, rfl, rfl⟩
  refine l_heap (H' := row b4 29 (ncC nc0) :: _) ?_ (fun _ h => h)
  refine l_nil ?_
  refine n_then ?_
  refine t_seq ?_
  refine t_region ?_
  refine l_q rfl rfl rfl (q_move rfl rfl) ?_
  refine l_eP rfl rfl rfl (eff_callP rfl rfl rfl Tryz.func33 (by kernel_rfl) rfl (fun w hw => now_calls b s hs p lv _ _ _ w _ rfl hp (picks_st1 (row b 53 (prC s lv p.next)) hw))) ?_ ?_
  · skip
    rintro _ Jx _ ⟨hJx, rfl, ax, ex, hbx, rfl⟩
    rw [bnd_bad hbx] at hR
    refine np_then (?_)
    exact np_body fun w hw => .inr ⟨_, rfl, Jx, _, ⟨hL.trans hJx, rfl, ax, ex, hR, rfl⟩, subC_st hw⟩
  rintro v7 J _ ⟨hJ, x7, p, lv, he7, hmu7, hp, ⟨rfl, hf, rfl⟩, rfl⟩
  have hL := hL.trans hJ
  rw [bnd_ok he7] at hR
  refine l_e rfl rfl rfl (e_alloc rfl ti79 rfl) ?_
  rintro _ _ _ ⟨b5, rfl, rfl, rfl⟩
  refine l_e0 rfl rfl ((by first | exact e_store_all rfl ti79 rfl rfl rfl (by first | exact chC_ones _ | exact pcC_ones _ | exact nc0_ones | exact kc_ones slb_one | exact tokC_ones _ | exact hn28.ones | exact hn31.ones | simp [Value.oneCell', str, u8]) rfl | exact e_store_agg rfl ti79 rfl rfl rfl (by first | exact chC_ones _ | exact pcC_ones _ | exact nc0_ones | exact kc_ones slb_one | exact tokC_ones _ | exact hn28.ones | exact hn31.ones | simp [Value.oneCell', str, u8]) rfl)) ?_
  rintro _ _ _ ⟨rfl, rfl⟩
  refine l_heap (H' := row b5 79 (tokC (headT s p)) :: _) ?_ (fun _ h => h)
  refine l_nil ?_
  refine n_then ?_
  refine t_seq ?_
  refine t_seq ?_
  refine t_region ?_
  refine l_q rfl rfl rfl (q_move rfl rfl) ?_
  refine l_q rfl rfl rfl (q_gtr rfl rfl rfl) ?_
  refine l_nil ?_
  refine n_then ?_
  refine t_cond rfl (fun hc0 => ?_) (fun hc0 => ?_)
  · skip
    try simp at hc0
    rw [hk2 (by omega)] at hR
    refine t_region ?_
    refine l_q rfl rfl rfl (q_fieldAddr rfl Tryz.underlying79 rfl rfl ti3 rfl rfl) ?_
    refine l_q rfl rfl rfl (q_load_row rfl Tryz.underlying3 rfl rfl (by rfl)) ?_
    refine l_q rfl rfl rfl (q_build (pl := [(_, _), (_, _)]) (cs := ([.int .i64 ((headT s p).pos : Int), .int .i64 52]).toArray) rfl Tryz.underlying48 ti48 ⟨rfl, ⟨_, _, ti3⟩, rfl, ⟨_, _, ti30⟩, trivial⟩ rfl rfl) ?_
    refine l_q rfl rfl rfl (q_makeIface rfl Tryz.underlying48 rfl rfl) ?_
    refine l_panic rfl rfl rfl ?_
    refine np_then (?_)
    exact np_body fun w hw => .inr ⟨_, rfl, J, _, ⟨hL, rfl, _, _, hR, rfl⟩, subC_st hw⟩
  · skip
    try simp at hc0
    obtain ⟨m, rfl⟩ : ∃ m, n = m + 1 := ⟨n - 1, by omega⟩
    rw [hk3 m rfl] at hR
    change R = (if (opB [40] (headT s p) || (decide ((headT s p).kind = 1) && amongB reservedS (headT s p).text)) = true then (lvC s (m + 1)).2 p else simpP s (fnP (lvC s m).2) p) at hR
    rw [← cmdB_int] at hR
    refine t_skip ?_
    refine n_then ?_
    refine t_seq ?_
    refine t_seq ?_
    refine t_qreg ?_
    refine s_q rfl rfl rfl (q_move rfl rfl) ?_
    refine s_q rfl rfl rfl (quiet_call rfl rfl rfl Tryz.func55 (by kernel_rfl) rfl ((fun w hw => opF_pure b s [40] p lv w hs hf hp.1 (rowI_of hw) (hp.2.2.mono hw.le)))) ?_
    refine s_q rfl rfl rfl (q_move rfl rfl) ?_
    refine s_or2 8 2 16 25 24 _ _ rfl rfl rfl rfl rfl rfl (fun h25 => by
        try simp at h25
        refine s_g rfl rfl rfl rfl rfl rfl (q_fieldAddr rfl Tryz.underlying79 rfl rfl ti3 rfl rfl) ?_
        refine s_g rfl rfl rfl rfl rfl rfl (q_load_row rfl Tryz.underlying3 rfl rfl (by rfl)) ?_
        refine s_g rfl rfl rfl rfl rfl rfl (q_eql rfl rfl rfl) ?_
        refine s_g rfl rfl rfl rfl rfl rfl (q_move rfl rfl) ?_
        refine s_and2 3 6 20 24 23 _ _ rfl rfl rfl rfl rfl rfl (fun h24 => by
            try simp at h24
            refine s_g rfl rfl rfl rfl rfl rfl (q_fieldAddr rfl Tryz.underlying79 rfl rfl ti9 rfl rfl) ?_
            refine s_g rfl rfl rfl rfl rfl rfl (q_load_row rfl Tryz.underlying9 rfl rfl (by rfl)) ?_
            refine s_g rfl rfl rfl rfl rfl rfl (quiet_call rfl rfl rfl Tryz.func134 (by kernel_rfl) rfl ((fun w hw => among_pure reservedS (headT s p).text w (by decide) (by have := headT_len hp.1; omega) (hp.2.1.mono hw.le)))) ?_
            exact s_val rfl
          ) (wanted_g rfl rfl rfl rfl) rfl rfl rfl ?_
        exact s_val rfl
      ) (wanted_n rfl) rfl rfl rfl ?_
    refine s_done ?_
    refine n_then ?_
    refine t_cond rfl (fun hc1 => ?_) (fun hc1 => ?_)
    · skip
      rw [if_pos hc1] at hR
      refine t_seq ?_
      refine t_region ?_
      refine l_q rfl rfl rfl (q_move rfl rfl) ?_
      refine l_q rfl rfl rfl (q_move rfl rfl) ?_
      refine l_eP rfl rfl rfl (eff_callP rfl rfl rfl Tryz.func135 (by kernel_rfl) rfl (fun w hw => (hK m rfl) p lv _ _ _ w _ rfl hp (picks_st1 (row b 53 (prC s lv p.next)) hw))) ?_ ?_
      · skip
        rintro _ Jx _ ⟨hJx, rfl, ax, ex, hbx, rfl⟩
        rw [hbx] at hR
        refine np_then (np_then (?_))
        exact np_body fun w hw => .inr ⟨_, rfl, Jx, _, ⟨hL.trans hJx, rfl, ax, ex, hR, rfl⟩, subC_st hw⟩
      rintro v28 J _ ⟨hJ, x28, p, lv, he28, hmu28, hp, ⟨c28, rfl, hn28⟩, rfl⟩
      have hL := hL.trans hJ
      rw [he28] at hR
      refine l_e0 rfl rfl ((by first | exact e_store_all rfl ti29 rfl rfl rfl (by first | exact chC_ones _ | exact pcC_ones _ | exact nc0_ones | exact kc_ones slb_one | exact tokC_ones _ | exact hn28.ones | exact hn31.ones | simp [Value.oneCell', str, u8]) rfl | exact e_store_agg rfl ti29 rfl rfl rfl (by first | exact chC_ones _ | exact pcC_ones _ | exact nc0_ones | exact kc_ones slb_one | exact tokC_ones _ | exact hn28.ones | exact hn31.ones | simp [Value.oneCell', str, u8]) rfl)) ?_
      rintro _ _ _ ⟨rfl, rfl⟩
      refine l_heap (H' := row b4 29 (ncC c28) :: _) ?_ (fun _ h => h)
      refine l_nil ?_
      refine n_then ?_
      refine t_ret ?_
      refine n_ret_then ?_
      refine n_retGG (.inl rfl) rfl (by exact rg_row rfl Tryz.underlying29 ti29 rfl rfl (rg_nil)) (fun w' hw => ?_)
      -- leaf 0
      exact .inl ⟨_, rfl, J, _, ⟨hL, _, p, lv, hR, (by omega), hp, ⟨_, rfl, hn28⟩, rfl⟩, subC_st hw⟩
    · skip
      rw [if_neg (by rw [hc1]; simp)] at hR
      refine t_skip ?_
      refine n_then ?_
      refine t_seq ?_
      refine t_region ?_
      refine l_q rfl rfl rfl (q_move rfl rfl) ?_
      refine l_q rfl rfl rfl (q_move rfl rfl) ?_
      refine l_eP rfl rfl rfl (eff_callP rfl rfl rfl Tryz.func136 (by kernel_rfl) rfl (fun w hw => (hS m rfl) p lv _ _ _ w _ rfl hp (picks_st1 (row b 53 (prC s lv p.next)) hw))) ?_ ?_
      · skip
        rintro _ Jx _ ⟨hJx, rfl, ax, ex, hbx, rfl⟩
        rw [hbx] at hR
        refine np_then (?_)
        exact np_body fun w hw => .inr ⟨_, rfl, Jx, _, ⟨hL.trans hJx, rfl, ax, ex, hR, rfl⟩, subC_st hw⟩
      rintro v31 J _ ⟨hJ, x31, p, lv, he31, hmu31, hp, ⟨c31, rfl, hn31⟩, rfl⟩
      have hL := hL.trans hJ
      rw [he31] at hR
      refine l_e0 rfl rfl ((by first | exact e_store_all rfl ti29 rfl rfl rfl (by first | exact chC_ones _ | exact pcC_ones _ | exact nc0_ones | exact kc_ones slb_one | exact tokC_ones _ | exact hn28.ones | exact hn31.ones | simp [Value.oneCell', str, u8]) rfl | exact e_store_agg rfl ti29 rfl rfl rfl (by first | exact chC_ones _ | exact pcC_ones _ | exact nc0_ones | exact kc_ones slb_one | exact tokC_ones _ | exact hn28.ones | exact hn31.ones | simp [Value.oneCell', str, u8]) rfl)) ?_
      rintro _ _ _ ⟨rfl, rfl⟩
      refine l_heap (H' := row b4 29 (ncC c31) :: _) ?_ (fun _ h => h)
      refine l_nil ?_
      refine n_then ?_
      refine t_ret ?_
      refine n_retGG (.inl rfl) rfl (by exact rg_row rfl Tryz.underlying29 ti29 rfl rfl (rg_nil)) (fun w' hw => ?_)
      -- leaf 1
      exact .inl ⟨_, rfl, J, _, ⟨hL, _, p, lv, hR, (by omega), hp, ⟨_, rfl, hn31⟩, rfl⟩, subC_st hw⟩
end Go.Tri

/-
  The parser: compound commands.
-/
namespace Go.Tri
open Go.Proofs Go.RowKit
theorem withR_at {I : Look} {n : Nd} {c : NC} {rs : List Rdr} {v : Value} (h : NdAt I n c) (hv : Sl I 5 v (rs.map rdCell)) : NdAt I (withR n rs) { c with rv := v } := by
  obtain ⟨k, nt, isin, nm, ws, rs0, ks⟩ := n
  unfold NdAt at h
  obtain ⟨h1, h2, h3, h4, h5, h6, cs, h7, h8⟩ := h
  show NdAt I (.mk k nt isin nm ws rs ks) _
  unfold NdAt
  exact ⟨h1, h2, h3, h4, h5, hv, cs, h7, h8⟩
set_option maxRecDepth 10000 in
theorem compound_calls (b : Nat) (s : List UInt8) (hs : s.length ≤ 65536) (B : PS → ReR Nd) (d : Nat) (hd : d ≤ 24) (hB : ParC 158 b s [.int .i64 ((d : Int) + 1)] B NdV 1) (hI : ParC 161 b s [.int .i64 (d : Int)] (ifP s B) NdV 1) (hF : ParC 162 b s [.int .i64 (d : Int)] (forP s B) NdV 1) (hC : ParC 163 b s [.int .i64 (d : Int)] (caseP s B) NdV 1) : ParC 135 b s [.int .i64 (d : Int)] (compP s B) NdV 1 := by
  intro p lv I F w0 w R hR hp hw0
  have hL := Le.refl I
  obtain ⟨M, hM⟩ : ∃ M, M = muP s p := ⟨_, rfl⟩
  unfold compP at hR
  rw [bnd_v, coreP] at hR
  refine enter Tryz.func135 rfl Tryz.ntmps135 rfl (hw0.self) ?_
  refine t_seq ?_
  refine t_region ?_
  refine l_e rfl rfl rfl (e_alloc rfl ti29 rfl) ?_
  rintro _ _ _ ⟨b4, rfl, rfl, rfl⟩
  refine l_heap (H' := row b4 29 (ncC nc0) :: _) ?_ (fun _ h => h)
  refine l_nil ?_
  refine n_then ?_
  refine t_seq ?_
  refine t_region ?_
  refine l_e rfl rfl rfl (e_alloc rfl ti29 rfl) ?_
  rintro _ _ _ ⟨b5, rfl, rfl, rfl⟩
  refine l_heap (H' := row b5 29 (ncC nc0) :: _) ?_ (fun _ h => h)
  refine l_nil ?_
  refine n_then ?_
  refine t_seq ?_
  refine t_region ?_
  refine l_q rfl rfl rfl (q_move rfl rfl) ?_
  refine l_eP rfl rfl rfl (eff_callP rfl rfl rfl Tryz.func33 (by kernel_rfl) rfl (fun w hw => now_calls b s hs p lv _ _ _ w _ rfl hp (picks_st1 (row b 53 (prC s lv p.next)) hw))) ?_ ?_
  · skip
    rintro _ Jx _ ⟨hJx, rfl, ax, ex, hbx, rfl⟩
    rw [bnd_bad hbx] at hR
    refine np_then (?_)
    exact np_body fun w hw => .inr ⟨_, rfl, Jx, _, ⟨hL.trans hJx, rfl, ax, ex, hR, rfl⟩, subC_st hw⟩
  rintro v10 J _ ⟨hJ, x10, p, lv, he10, hmu10, hp, ⟨rfl, hf, rfl⟩, rfl⟩
  have hL := hL.trans hJ
  rw [bnd_ok he10] at hR
  obtain ⟨tt, htt⟩ : ∃ z, headT s p = z := ⟨_, rfl⟩
  rw [htt] at hR
  refine l_e rfl rfl rfl (e_alloc rfl ti79 rfl) ?_
  rintro _ _ _ ⟨b6, rfl, rfl, rfl⟩
  refine l_e0 rfl rfl ((by first | exact e_store_all rfl ti79 rfl rfl rfl (by first | exact chC_ones _ | exact pcC_ones _ | exact nc0_ones | exact kc_ones slb_one | exact tokC_ones _ | exact hn44.ones | exact hn76.ones | exact hn82.ones | exact hn58.ones | exact hcr.ones | simp [Value.oneCell', str, u8]) rfl | exact e_store_agg rfl ti79 rfl rfl rfl (by first | exact chC_ones _ | exact pcC_ones _ | exact nc0_ones | exact kc_ones slb_one | exact tokC_ones _ | exact hn44.ones | exact hn76.ones | exact hn82.ones | exact hn58.ones | exact hcr.ones | simp [Value.oneCell', str, u8]) rfl)) ?_
  rintro _ _ _ ⟨rfl, rfl⟩
  refine l_heap (H' := row b6 79 (tokC tt) :: _) ?_ (fun _ h => by rw [← htt]; exact h)
  refine l_nil ?_
  refine n_then ?_
  refine t_cutE (ι := PS × Value × Look × NC × Nd) (fun zz => Le I zz.2.2.1 ∧ PSt s zz.1 zz.2.1 zz.2.2.1 ∧ NdAt zz.2.2.1 zz.2.2.2.2 zz.2.2.2.1 ∧ muP s zz.1 + 1 ≤ M ∧ R = bnd (redirsR s) (fun l q => .ok (withR zz.2.2.2.2 l) q) zz.1) (fun zz => []) [(0, _), (1, _), (4, _), (5, _), (6, _)] (fun zz => zz.2.2.1) (fun zz => (row b5 29 (ncC zz.2.2.2.1) :: row b4 29 (ncC nc0) :: row b 53 (prC s zz.2.1 zz.1.next) :: F)) (sub_cons rfl (sub_cons rfl (sub_cons rfl (sub_cons rfl (sub_cons rfl sub_nil))))) ?_ ?_
  · skip
    refine t_block ?_
    refine t_seq ?_
    refine t_region ?_
    refine l_q rfl rfl rfl (q_move rfl rfl) ?_
    refine l_q rfl rfl rfl (quiet_call rfl rfl rfl Tryz.func55 (by kernel_rfl) rfl ((fun w hw => opF_pure b s [40] p lv w hs hf hp.1 (rowI_of hw) (hp.2.2.mono hw.le)))) ?_
    refine l_q rfl rfl rfl (q_assign rfl rfl) ?_
    refine l_nil ?_
    refine n_then ?_
    refine t_cond rfl (fun hc0 => ?_) (fun hc0 => ?_)
    · skip
      have q0 : opB [40] tt = true := by rw [← htt]; exact hc0
      rw [if_pos q0] at hR
      refine t_seq ?_
      refine t_region ?_
      refine l_q rfl rfl rfl (q_move rfl rfl) ?_
      refine l_e rfl rfl rfl (eff_call rfl rfl rfl Tryz.func36 (by kernel_rfl) rfl (fun w hw => stepF_calls b s hs p lv _ _ _ w hf hp (picks_st1 (row b 53 (prC s lv p.next)) hw))) ?_
      rintro _ J _ ⟨hJ, rfl, p, lv, hst17, hma17, hmb17, hp, rfl⟩
      have hL := hL.trans hJ
      rw [← hst17] at hR
      have hmb := hmb17 (by rw [htt]; exact opB_kind q0)
      refine l_nil ?_
      refine n_then ?_
      refine t_seq ?_
      refine t_region ?_
      refine l_q rfl rfl rfl (q_move rfl rfl) ?_
      refine l_q rfl rfl rfl (q_move rfl rfl) ?_
      refine l_q rfl rfl rfl (q_add64 rfl rfl rfl (by omega)) ?_
      refine l_eP rfl rfl rfl (eff_callP rfl rfl rfl Tryz.func158 (by kernel_rfl) rfl (fun w hw => hB p lv _ _ _ w _ rfl hp (picks_st1 (row b 53 (prC s lv p.next)) hw))) ?_ ?_
      · skip
        rintro _ Jx _ ⟨hJx, rfl, ax, ex, hbx, rfl⟩
        rw [bnd_bad hbx] at hR
        refine np_then (np_block (np_then (?_)))
        exact np_body fun w hw => .inr ⟨_, rfl, Jx, _, ⟨hL.trans hJx, rfl, ax, ex, hR, rfl⟩, subC_st hw⟩
      rintro v21 J _ ⟨hJ, x21, p, lv, he21, hmu21, hp, ⟨c21, rfl, hn21⟩, rfl⟩
      have hL := hL.trans hJ
      rw [bnd_ok he21] at hR
      refine l_e rfl rfl rfl (e_buildSlice1 rfl Tryz.underlying27 ti29 rfl rfl rfl (by first | exact One.cells (by assumption) | exact One.cells hv84.one | rfl) rfl) ?_
      rintro _ _ _ ⟨b22, rfl, rfl, rfl⟩
      refine l_heap (H' := tvec 29 7 ncC (.slice (some ⟨b22, 0, none⟩) 1 1) [c21] :: _) ?_ (fun _ h => st_rowVec h rfl (by decide))
      refine l_q rfl rfl rfl (q_build (pl := [(_, _), (_, _), (_, _), (_, _), (_, _), (_, _), (_, _)]) (cs := (ncC ⟨7, false, false, [], nilS', nilS', (.slice (some ⟨b22, 0, none⟩) 1 1)⟩).toArray) rfl Tryz.underlying29 ti29 ⟨rfl, ⟨_, _, ti3⟩, rfl, ⟨_, _, ti4⟩, rfl, ⟨_, _, ti4⟩, rfl, ⟨_, _, ti9⟩, rfl, ⟨_, _, ti25⟩, rfl, ⟨_, _, ti26⟩, rfl, ⟨_, _, ti27⟩, trivial⟩ rfl rfl) ?_
      refine l_e0 rfl rfl ((by first | exact e_store_all rfl ti29 rfl rfl rfl (by first | exact chC_ones _ | exact pcC_ones _ | exact nc0_ones | exact kc_ones slb_one | exact tokC_ones _ | exact hn44.ones | exact hn76.ones | exact hn82.ones | exact hn58.ones | exact hcr.ones | simp [Value.oneCell', str, u8]) rfl | exact e_store_agg rfl ti29 rfl rfl rfl (by first | exact chC_ones _ | exact pcC_ones _ | exact nc0_ones | exact kc_ones slb_one | exact tokC_ones _ | exact hn44.ones | exact hn76.ones | exact hn82.ones | exact hn58.ones | exact hcr.ones | simp [Value.oneCell', str, u8]) rfl)) ?_
      rintro _ _ _ ⟨rfl, rfl⟩
      refine l_heap (H' := row b5 29 (ncC ⟨7, false, false, [], nilS', nilS', (.slice (some ⟨b22, 0, none⟩) 1 1)⟩) :: _) ?_ (fun _ h => h)
      refine l_nil ?_
      refine n_then ?_
      refine t_region ?_
      refine l_q rfl rfl rfl (q_move rfl rfl) ?_
      refine l_eP rfl rfl rfl (eff_callP rfl rfl rfl Tryz.func159 (by kernel_rfl) rfl (fun w hw => needOp_calls b s hs [41] p lv _ _ _ w _ rfl hp (picks_st1 (row b 53 (prC s lv p.next)) hw))) ?_ ?_
      · skip
        rintro _ Jx _ ⟨hJx, rfl, ax, ex, hbx, rfl⟩
        rw [bnd_bad hbx] at hR
        refine np_block (np_then (?_))
        exact np_body fun w hw => .inr ⟨_, rfl, Jx, _, ⟨hL.trans hJx, rfl, ax, ex, hR, rfl⟩, subC_st hw⟩
      rintro v25 J _ ⟨hJ, x25, p, lv, he25, hmu25, hp, rfl, rfl⟩
      have hL := hL.trans hJ
      rw [bnd_ok he25] at hR
      have hn21 := hn21.mono hJ
      refine l_nil ?_
      refine n_block ?_
      refine n_freezeT (f := ncC) (l := [c21]) (.slice (some ⟨b22, 0, none⟩) 1 1) (fun _ => rfl) (fun Jf hJf hvf => ?_)
      refine n_cut ((p, lv, Jf, ⟨7, false, false, [], nilS', nilS', (.slice (some ⟨b22, 0, none⟩) 1 1)⟩, ndK 7 [x21])) ?_ (sub_nil) (sub_cons rfl (sub_cons rfl (sub_cons rfl (sub_cons rfl (sub_cons rfl sub_nil))))) (fun _ h => by try dsimp only; exact subC_st h)
      · try dsimp only
        exact ⟨hL.trans hJf, hp.mono hJf, NdAt.kids hvf (NdsAt.one (hn21.mono hJf)), by omega, hR⟩
    · skip
      have q0 : ¬ opB [40] tt = true := by rw [← htt, show opB [40] (headT s p) = false from hc0]; simp
      rw [if_neg q0] at hR
      refine t_seq ?_
      refine t_region ?_
      refine l_q rfl rfl rfl (q_move rfl rfl) ?_
      refine l_q rfl rfl rfl (quiet_call rfl rfl rfl Tryz.func108 (by kernel_rfl) rfl ((fun w hw => keyF_pure b s [123] p lv w hs hf hp.1 (rowI_of hw) (hp.2.2.mono hw.le)))) ?_
      refine l_q rfl rfl rfl (q_assign rfl rfl) ?_
      refine l_nil ?_
      refine n_then ?_
      refine t_cond rfl (fun hc1 => ?_) (fun hc1 => ?_)
      · skip
        have q1 : keyB [123] tt = true := by rw [← htt]; exact hc1
        rw [if_pos q1] at hR
        refine t_seq ?_
        refine t_region ?_
        refine l_q rfl rfl rfl (q_move rfl rfl) ?_
        refine l_e rfl rfl rfl (eff_call rfl rfl rfl Tryz.func36 (by kernel_rfl) rfl (fun w hw => stepF_calls b s hs p lv _ _ _ w hf hp (picks_st1 (row b 53 (prC s lv p.next)) hw))) ?_
        rintro _ J _ ⟨hJ, rfl, p, lv, hst30, hma30, hmb30, hp, rfl⟩
        have hL := hL.trans hJ
        rw [← hst30] at hR
        have hmb := hmb30 (by rw [htt]; exact keyB_kind q1)
        refine l_nil ?_
        refine n_then ?_
        refine t_seq ?_
        refine t_region ?_
        refine l_q rfl rfl rfl (q_move rfl rfl) ?_
        refine l_q rfl rfl rfl (q_move rfl rfl) ?_
        refine l_q rfl rfl rfl (q_add64 rfl rfl rfl (by omega)) ?_
        refine l_eP rfl rfl rfl (eff_callP rfl rfl rfl Tryz.func158 (by kernel_rfl) rfl (fun w hw => hB p lv _ _ _ w _ rfl hp (picks_st1 (row b 53 (prC s lv p.next)) hw))) ?_ ?_
        · skip
          rintro _ Jx _ ⟨hJx, rfl, ax, ex, hbx, rfl⟩
          rw [bnd_bad hbx] at hR
          refine np_then (np_block (np_then (?_)))
          exact np_body fun w hw => .inr ⟨_, rfl, Jx, _, ⟨hL.trans hJx, rfl, ax, ex, hR, rfl⟩, subC_st hw⟩
        rintro v34 J _ ⟨hJ, x34, p, lv, he34, hmu34, hp, ⟨c34, rfl, hn34⟩, rfl⟩
        have hL := hL.trans hJ
        rw [bnd_ok he34] at hR
        refine l_e rfl rfl rfl (e_buildSlice1 rfl Tryz.underlying27 ti29 rfl rfl rfl (by first | exact One.cells (by assumption) | exact One.cells hv84.one | rfl) rfl) ?_
        rintro _ _ _ ⟨b35, rfl, rfl, rfl⟩
        refine l_heap (H' := tvec 29 7 ncC (.slice (some ⟨b35, 0, none⟩) 1 1) [c34] :: _) ?_ (fun _ h => st_rowVec h rfl (by decide))
        refine l_q rfl rfl rfl (q_build (pl := [(_, _), (_, _), (_, _), (_, _), (_, _), (_, _), (_, _)]) (cs := (ncC ⟨8, false, false, [], nilS', nilS', (.slice (some ⟨b35, 0, none⟩) 1 1)⟩).toArray) rfl Tryz.underlying29 ti29 ⟨rfl, ⟨_, _, ti3⟩, rfl, ⟨_, _, ti4⟩, rfl, ⟨_, _, ti4⟩, rfl, ⟨_, _, ti9⟩, rfl, ⟨_, _, ti25⟩, rfl, ⟨_, _, ti26⟩, rfl, ⟨_, _, ti27⟩, trivial⟩ rfl rfl) ?_
        refine l_e0 rfl rfl ((by first | exact e_store_all rfl ti29 rfl rfl rfl (by first | exact chC_ones _ | exact pcC_ones _ | exact nc0_ones | exact kc_ones slb_one | exact tokC_ones _ | exact hn44.ones | exact hn76.ones | exact hn82.ones | exact hn58.ones | exact hcr.ones | simp [Value.oneCell', str, u8]) rfl | exact e_store_agg rfl ti29 rfl rfl rfl (by first | exact chC_ones _ | exact pcC_ones _ | exact nc0_ones | exact kc_ones slb_one | exact tokC_ones _ | exact hn44.ones | exact hn76.ones | exact hn82.ones | exact hn58.ones | exact hcr.ones | simp [Value.oneCell', str, u8]) rfl)) ?_
        rintro _ _ _ ⟨rfl, rfl⟩
        refine l_heap (H' := row b5 29 (ncC ⟨8, false, false, [], nilS', nilS', (.slice (some ⟨b35, 0, none⟩) 1 1)⟩) :: _) ?_ (fun _ h => h)
        refine l_nil ?_
        refine n_then ?_
        refine t_region ?_
        refine l_q rfl rfl rfl (q_move rfl rfl) ?_
        refine l_eP rfl rfl rfl (eff_callP rfl rfl rfl Tryz.func160 (by kernel_rfl) rfl (fun w hw => needKey_calls b s hs [125] p lv _ _ _ w _ rfl hp (picks_st1 (row b 53 (prC s lv p.next)) hw))) ?_ ?_
        · skip
          rintro _ Jx _ ⟨hJx, rfl, ax, ex, hbx, rfl⟩
          rw [bnd_bad hbx] at hR
          refine np_block (np_then (?_))
          exact np_body fun w hw => .inr ⟨_, rfl, Jx, _, ⟨hL.trans hJx, rfl, ax, ex, hR, rfl⟩, subC_st hw⟩
        rintro v38 J _ ⟨hJ, x38, p, lv, he38, hmu38, hp, rfl, rfl⟩
        have hL := hL.trans hJ
        rw [bnd_ok he38] at hR
        have hn34 := hn34.mono hJ
        refine l_nil ?_
        refine n_block ?_
        refine n_freezeT (f := ncC) (l := [c34]) (.slice (some ⟨b35, 0, none⟩) 1 1) (fun _ => rfl) (fun Jf hJf hvf => ?_)
        refine n_cut ((p, lv, Jf, ⟨8, false, false, [], nilS', nilS', (.slice (some ⟨b35, 0, none⟩) 1 1)⟩, ndK 8 [x34])) ?_ (sub_nil) (sub_cons rfl (sub_cons rfl (sub_cons rfl (sub_cons rfl (sub_cons rfl sub_nil))))) (fun _ h => by try dsimp only; exact subC_st h)
        · try dsimp only
          exact ⟨hL.trans hJf, hp.mono hJf, NdAt.kids hvf (NdsAt.one (hn34.mono hJf)), by omega, hR⟩
      · skip
        have q1 : ¬ keyB [123] tt = true := by rw [← htt, show keyB [123] (headT s p) = false from hc1]; simp
        rw [if_neg q1] at hR
        refine t_seq ?_
        refine t_region ?_
        refine l_q rfl rfl rfl (q_move rfl rfl) ?_
        refine l_q rfl rfl rfl (quiet_call rfl rfl rfl Tryz.func108 (by kernel_rfl) rfl ((fun w hw => keyF_pure b s [105, 102] p lv w hs hf hp.1 (rowI_of hw) (hp.2.2.mono hw.le)))) ?_
        refine l_q rfl rfl rfl (q_assign rfl rfl) ?_
        refine l_nil ?_
        refine n_then ?_
        refine t_cond rfl (fun hc2 => ?_) (fun hc2 => ?_)
        · skip
          have q2 : keyB [105, 102] tt = true := by rw [← htt]; exact hc2
          rw [if_pos q2] at hR
          refine t_region ?_
          refine l_q rfl rfl rfl (q_move rfl rfl) ?_
          refine l_q rfl rfl rfl (q_move rfl rfl) ?_
          refine l_eP rfl rfl rfl (eff_callP rfl rfl rfl Tryz.func161 (by kernel_rfl) rfl (fun w hw => hI p lv _ _ _ w _ rfl hp (picks_st1 (row b 53 (prC s lv p.next)) hw))) ?_ ?_
          · skip
            rintro _ Jx _ ⟨hJx, rfl, ax, ex, hbx, rfl⟩
            rw [hbx] at hR
            refine np_block (np_then (?_))
            exact np_body fun w hw => .inr ⟨_, rfl, Jx, _, ⟨hL.trans hJx, rfl, ax, ex, hR, rfl⟩, subC_st hw⟩
          rintro v44 J _ ⟨hJ, x44, p, lv, he44, hmu44, hp, ⟨c44, rfl, hn44⟩, rfl⟩
          have hL := hL.trans hJ
          rw [he44] at hR
          refine l_e0 rfl rfl ((by first | exact e_store_all rfl ti29 rfl rfl rfl (by first | exact chC_ones _ | exact pcC_ones _ | exact nc0_ones | exact kc_ones slb_one | exact tokC_ones _ | exact hn44.ones | exact hn76.ones | exact hn82.ones | exact hn58.ones | exact hcr.ones | simp [Value.oneCell', str, u8]) rfl | exact e_store_agg rfl ti29 rfl rfl rfl (by first | exact chC_ones _ | exact pcC_ones _ | exact nc0_ones | exact kc_ones slb_one | exact tokC_ones _ | exact hn44.ones | exact hn76.ones | exact hn82.ones | exact hn58.ones | exact hcr.ones | simp [Value.oneCell', str, u8]) rfl)) ?_
          rintro _ _ _ ⟨rfl, rfl⟩
          refine l_heap (H' := row b5 29 (ncC c44) :: _) ?_ (fun _ h => h)
          refine l_nil ?_
          refine n_block ?_
          refine n_cut ((p, lv, J, c44, x44)) ?_ (sub_nil) (sub_cons rfl (sub_cons rfl (sub_cons rfl (sub_cons rfl (sub_cons rfl sub_nil))))) (fun _ h => by try dsimp only; exact subC_st h)
          · try dsimp only
            exact ⟨hL, hp, hn44, by omega, hR⟩
        · skip
          have q2 : ¬ keyB [105, 102] tt = true := by rw [← htt, show keyB [105, 102] (headT s p) = false from hc2]; simp
          rw [if_neg q2] at hR
          refine t_cutE (ι := Bool) (fun zz => zz = (keyB [119, 104, 105, 108, 101] tt || keyB [117, 110, 116, 105, 108] tt)) (fun zz => [(45, .bool zz)]) [(0, _), (1, _), (4, _), (5, _), (6, _), (13, _), (26, _), (39, _)] (fun zz => J) (fun zz => (row b6 79 (tokC tt) :: row b5 29 (ncC nc0) :: row b4 29 (ncC nc0) :: row b 53 (prC s lv p.next) :: F)) (sub_cons rfl (sub_cons rfl (sub_cons rfl (sub_cons rfl (sub_cons rfl (sub_cons rfl (sub_cons rfl (sub_cons rfl sub_nil)))))))) ?_ ?_
          · skip
            refine t_seq ?_
            refine t_region ?_
            refine l_q rfl rfl rfl (q_move rfl rfl) ?_
            refine l_q rfl rfl rfl (quiet_call rfl rfl rfl Tryz.func108 (by kernel_rfl) rfl ((fun w hw => keyF_pure b s [119, 104, 105, 108, 101] p lv w hs hf hp.1 (rowI_of hw) (hp.2.2.mono hw.le)))) ?_
            refine l_q rfl rfl rfl (q_assign rfl rfl) ?_
            refine l_nil ?_
            refine n_then ?_
            refine t_cond rfl (fun hc3 => ?_) (fun hc3 => ?_)
            · skip
              refine t_skip ?_
              refine n_cut (true) ?_ (sub_cons' rfl (congrArg Value.bool hc3) (sub_nil)) (sub_cons rfl (sub_cons rfl (sub_cons rfl (sub_cons rfl (sub_cons rfl (sub_cons rfl (sub_cons rfl (sub_cons rfl sub_nil)))))))) (fun _ h => by try dsimp only; exact subC_st h)
              · try dsimp only
                rw [← htt, show keyB [119, 104, 105, 108, 101] (headT s p) = true from hc3]; rfl
            · skip
              refine t_region ?_
              refine l_q rfl rfl rfl (q_move rfl rfl) ?_
              refine l_q rfl rfl rfl (quiet_call rfl rfl rfl Tryz.func108 (by kernel_rfl) rfl ((fun w hw => keyF_pure b s [117, 110, 116, 105, 108] p lv w hs hf hp.1 (rowI_of hw) (hp.2.2.mono hw.le)))) ?_
              refine l_q rfl rfl rfl (q_assign rfl rfl) ?_
              refine l_nil ?_
              refine n_cut (keyB [117, 110, 116, 105, 108] (headT s p)) ?_ (sub_cons rfl sub_nil) (sub_cons rfl (sub_cons rfl (sub_cons rfl (sub_cons rfl (sub_cons rfl (sub_cons rfl (sub_cons rfl (sub_cons rfl sub_nil)))))))) (fun _ h => by try dsimp only; exact subC_st h)
              · try dsimp only
                rw [← htt, show keyB [119, 104, 105, 108, 101] (headT s p) = false from hc3]; rfl
          rintro wu hwu
          try dsimp only at *
          refine t_cond rfl (fun hc4 => ?_) (fun hc4 => ?_)
          · skip
            have q3 : (keyB [119, 104, 105, 108, 101] tt || keyB [117, 110, 116, 105, 108] tt) = true := by rw [← hwu]; exact hc4
            rw [if_pos q3] at hR
            refine t_seq ?_
            refine t_region ?_
            refine l_q rfl rfl rfl (q_move rfl rfl) ?_
            refine l_e rfl rfl rfl (eff_call rfl rfl rfl Tryz.func36 (by kernel_rfl) rfl (fun w hw => stepF_calls b s hs p lv _ _ _ w hf hp (picks_st1 (row b 53 (prC s lv p.next)) hw))) ?_
            rintro _ J _ ⟨hJ, rfl, p, lv, hst51, hma51, hmb51, hp, rfl⟩
            have hL := hL.trans hJ
            rw [← hst51] at hR
            have hmb := hmb51 (by rw [htt]; rw [Bool.or_eq_true] at q3; rcases q3 with h | h <;> exact keyB_kind h)
            refine l_nil ?_
            refine n_then ?_
            refine t_seq ?_
            refine t_region ?_
            refine l_q rfl rfl rfl (q_assign rfl rfl) ?_
            refine l_nil ?_
            refine n_then ?_
            refine t_cutE (ι := Nat) (fun zz => zz = if tt.text = [117, 110, 116, 105, 108] then 11 else 10) (fun zz => [(7, .int .i64 (zz : Int))]) [(45, _), (0, _), (1, _), (4, _), (5, _), (6, _), (13, _), (26, _), (39, _)] (fun zz => J) (fun zz => (row b6 79 (tokC tt) :: row b5 29 (ncC nc0) :: row b4 29 (ncC nc0) :: row b 53 (prC s lv p.next) :: F)) (sub_cons rfl (sub_cons rfl (sub_cons rfl (sub_cons rfl (sub_cons rfl (sub_cons rfl (sub_cons rfl (sub_cons rfl (sub_cons rfl sub_nil))))))))) ?_ ?_
            · skip
              refine t_seq ?_
              refine t_region ?_
              refine l_q rfl rfl rfl (q_fieldAddr rfl Tryz.underlying79 rfl rfl ti9 rfl rfl) ?_
              refine l_q rfl rfl rfl (q_load_row rfl Tryz.underlying9 rfl rfl (by rfl)) ?_
              refine l_q rfl rfl rfl (q_eql_str rfl rfl rfl) ?_
              refine l_nil ?_
              refine n_then ?_
              refine t_cond rfl (fun hc5 => ?_) (fun hc5 => ?_)
              · skip
                refine t_region ?_
                refine l_q rfl rfl rfl (q_assign rfl rfl) ?_
                refine l_nil ?_
                refine n_cut (11) ?_ (sub_cons rfl sub_nil) (sub_cons rfl (sub_cons rfl (sub_cons rfl (sub_cons rfl (sub_cons rfl (sub_cons rfl (sub_cons rfl (sub_cons rfl (sub_cons rfl sub_nil))))))))) (fun _ h => by try dsimp only; exact subC_st h)
                · try dsimp only
                  rw [if_pos (of_decide_eq_true hc5)]
              · skip
                refine t_skip ?_
                refine n_cut (10) ?_ (sub_cons rfl sub_nil) (sub_cons rfl (sub_cons rfl (sub_cons rfl (sub_cons rfl (sub_cons rfl (sub_cons rfl (sub_cons rfl (sub_cons rfl (sub_cons rfl sub_nil))))))))) (fun _ h => by try dsimp only; exact subC_st h)
                · try dsimp only
                  rw [if_neg (of_decide_eq_false hc5)]
            rintro kk hkk
            try dsimp only at *
            rw [← hkk] at hR
            refine t_seq ?_
            refine t_region ?_
            refine l_q rfl rfl rfl (q_move rfl rfl) ?_
            refine l_q rfl rfl rfl (q_move rfl rfl) ?_
            refine l_q rfl rfl rfl (q_add64 rfl rfl rfl (by omega)) ?_
            refine l_eP rfl rfl rfl (eff_callP rfl rfl rfl Tryz.func158 (by kernel_rfl) rfl (fun w hw => hB p lv _ _ _ w _ rfl hp (picks_st1 (row b 53 (prC s lv p.next)) hw))) ?_ ?_
            · skip
              rintro _ Jx _ ⟨hJx, rfl, ax, ex, hbx, rfl⟩
              rw [bnd_bad hbx] at hR
              refine np_then (np_block (np_then (?_)))
              exact np_body fun w hw => .inr ⟨_, rfl, Jx, _, ⟨hL.trans hJx, rfl, ax, ex, hR, rfl⟩, subC_st hw⟩
            rintro v58 J _ ⟨hJ, x58, p, lv, he58, hmu58, hp, ⟨c58, rfl, hn58⟩, rfl⟩
            have hL := hL.trans hJ
            rw [bnd_ok he58] at hR
            refine l_e rfl rfl rfl (e_alloc rfl ti29 rfl) ?_
            rintro _ _ _ ⟨b8, rfl, rfl, rfl⟩
            refine l_e0 rfl rfl ((by first | exact e_store_all rfl ti29 rfl rfl rfl (by first | exact chC_ones _ | exact pcC_ones _ | exact nc0_ones | exact kc_ones slb_one | exact tokC_ones _ | exact hn44.ones | exact hn76.ones | exact hn82.ones | exact hn58.ones | exact hcr.ones | simp [Value.oneCell', str, u8]) rfl | exact e_store_agg rfl ti29 rfl rfl rfl (by first | exact chC_ones _ | exact pcC_ones _ | exact nc0_ones | exact kc_ones slb_one | exact tokC_ones _ | exact hn44.ones | exact hn76.ones | exact hn82.ones | exact hn58.ones | exact hcr.ones | simp [Value.oneCell', str, u8]) rfl)) ?_
            rintro _ _ _ ⟨rfl, rfl⟩
            refine l_heap (H' := row b8 29 (ncC c58) :: _) ?_ (fun _ h => h)
            refine l_nil ?_
            refine n_then ?_
            refine t_seq ?_
            refine t_region ?_
            refine l_q rfl rfl rfl (q_move rfl rfl) ?_
            refine l_eP rfl rfl rfl (eff_callP rfl rfl rfl Tryz.func160 (by kernel_rfl) rfl (fun w hw => needKey_calls b s hs [100, 111] p lv _ _ _ w _ rfl hp (picks_st1 (row b 53 (prC s lv p.next)) hw))) ?_ ?_
            · skip
              rintro _ Jx _ ⟨hJx, rfl, ax, ex, hbx, rfl⟩
              rw [bnd_bad hbx] at hR
              refine np_then (np_block (np_then (?_)))
              exact np_body fun w hw => .inr ⟨_, rfl, Jx, _, ⟨hL.trans hJx, rfl, ax, ex, hR, rfl⟩, subC_st hw⟩
            rintro v60 J _ ⟨hJ, x60, p, lv, he60, hmu60, hp, rfl, rfl⟩
            have hL := hL.trans hJ
            rw [bnd_ok he60] at hR
            have hn58 := hn58.mono hJ
            refine l_nil ?_
            refine n_then ?_
            refine t_seq ?_
            refine t_draw [5, 6, 8] [] [row b8 29 (ncC c58)] mo (by kernel_rfl) (fun _ _ _ _ _ h => h) ?_
            refine r_q0 0 (by kernel_rfl) rfl (Le.refl _) rfl rfl rfl (fun _ hI => q_move rfl rfl) ?_
            refine r_q0 1 (by kernel_rfl) rfl (Le.refl _) rfl rfl rfl (fun _ hI => q_load_rowA rfl Tryz.underlying29 ti29 rfl rfl rfl) ?_
            refine r_q1 2 (by kernel_rfl) rfl (Le.refl _) rfl rfl rfl (q_move rfl rfl) ?_
            refine r_q1 3 (by kernel_rfl) rfl (Le.refl _) rfl rfl rfl (q_move rfl rfl) ?_
            refine r_q1 4 (by kernel_rfl) rfl (Le.refl _) rfl rfl rfl (q_add64 rfl rfl rfl (by omega)) ?_
            refine r_eP 5 (by kernel_rfl) (by kernel_rfl) rfl (Le.refl _) rfl rfl rfl (eff_callP rfl rfl rfl Tryz.func158 (by kernel_rfl) rfl (fun w hw => hB p lv _ _ _ w _ rfl hp (picks_st1 (row b 53 (prC s lv p.next)) hw))) ?_ ?_
            · skip
              rintro _ Jx _ ⟨hJx, rfl, ax, ex, hbx, rfl⟩
              rw [bnd_bad hbx] at hR
              refine np_then (np_block (np_then (?_)))
              exact np_body fun w hw => .inr ⟨_, rfl, Jx, _, ⟨hL.trans hJx, rfl, ax, ex, hR, rfl⟩, subC_st hw⟩
            rintro v66 J _ ⟨hJ, x66, p, lv, he66, hmu66, hp, ⟨c66, rfl, hn66⟩, rfl⟩
            refine ⟨hJ, .inr SubC.sub, ?_⟩
            have hL := hL.trans hJ
            rw [bnd_ok he66] at hR
            have hn58 := hn58.mono hJ
            refine r_e 6 (by kernel_rfl) (by kernel_rfl) rfl (hJ) rfl rfl rfl (e_buildSliceN (vs := [_, _]) (css := [ncC c58, ncC c66]) rfl Tryz.underlying27 ti29 rfl rfl rfl rfl (rfl) (by simp [ncC])) ?_
            rintro _ _ _ ⟨b67, rfl, rfl, rfl⟩
            refine ⟨Le.refl _, .inr SubC.sub, ?_⟩
            refine r_heap (H' := tvec 29 7 ncC (.slice (some ⟨b67, 0, none⟩) 2 2) [c58, c66] :: _) ?_ (fun _ h => st_rowVec h rfl (by decide))
            refine r_q0 7 (by kernel_rfl) rfl (hJ) rfl rfl rfl (fun _ hI => q_build (pl := [(_, _), (_, _), (_, _), (_, _), (_, _), (_, _), (_, _)]) (cs := (ncC ⟨kk, false, false, [], nilS', nilS', (.slice (some ⟨b67, 0, none⟩) 2 2)⟩).toArray) rfl Tryz.underlying29 ti29 ⟨rfl, ⟨_, _, ti3⟩, rfl, ⟨_, _, ti4⟩, rfl, ⟨_, _, ti4⟩, rfl, ⟨_, _, ti9⟩, rfl, ⟨_, _, ti25⟩, rfl, ⟨_, _, ti26⟩, rfl, ⟨_, _, ti27⟩, trivial⟩ rfl rfl) ?_
            refine r_e0 8 (by kernel_rfl) (by kernel_rfl) rfl (hJ) rfl rfl ((by first | exact e_store_all rfl ti29 rfl rfl rfl (by first | exact chC_ones _ | exact pcC_ones _ | exact nc0_ones | exact kc_ones slb_one | exact tokC_ones _ | exact hn44.ones | exact hn76.ones | exact hn82.ones | exact hn58.ones | exact hcr.ones | simp [Value.oneCell', str, u8]) rfl | exact e_store_agg rfl ti29 rfl rfl rfl (by first | exact chC_ones _ | exact pcC_ones _ | exact nc0_ones | exact kc_ones slb_one | exact tokC_ones _ | exact hn44.ones | exact hn76.ones | exact hn82.ones | exact hn58.ones | exact hcr.ones | simp [Value.oneCell', str, u8]) rfl)) ?_
            rintro _ _ _ ⟨rfl, rfl⟩
            refine ⟨Le.refl _, .inr SubC.sub, ?_⟩
            refine r_heap (H' := row b5 29 (ncC ⟨kk, false, false, [], nilS', nilS', (.slice (some ⟨b67, 0, none⟩) 2 2)⟩) :: _) ?_ (fun _ h => h)
            refine r_end (by kernel_rfl) ?_
            refine n_then ?_
            refine t_region ?_
            refine l_q rfl rfl rfl (q_move rfl rfl) ?_
            refine l_eP rfl rfl rfl (eff_callP rfl rfl rfl Tryz.func160 (by kernel_rfl) rfl (fun w hw => needKey_calls b s hs [100, 111, 110, 101] p lv _ _ _ w _ rfl hp (picks_st1 (row b 53 (prC s lv p.next)) hw))) ?_ ?_
            · skip
              rintro _ Jx _ ⟨hJx, rfl, ax, ex, hbx, rfl⟩
              rw [bnd_bad hbx] at hR
              refine np_block (np_then (?_))
              exact np_body fun w hw => .inr ⟨_, rfl, Jx, _, ⟨hL.trans hJx, rfl, ax, ex, hR, rfl⟩, subC_st hw⟩
            rintro v70 J _ ⟨hJ, x70, p, lv, he70, hmu70, hp, rfl, rfl⟩
            have hL := hL.trans hJ
            rw [bnd_ok he70] at hR
            have hn58 := hn58.mono hJ
            have hn66 := hn66.mono hJ
            refine l_nil ?_
            refine n_block ?_
            refine n_freezeT (f := ncC) (l := [c58, c66]) (.slice (some ⟨b67, 0, none⟩) 2 2) (fun _ => rfl) (fun Jf hJf hvf => ?_)
            refine n_cut ((p, lv, Jf, ⟨kk, false, false, [], nilS', nilS', (.slice (some ⟨b67, 0, none⟩) 2 2)⟩, ndK kk [x58, x66])) ?_ (sub_nil) (sub_cons rfl (sub_cons rfl (sub_cons rfl (sub_cons rfl (sub_cons rfl sub_nil))))) (fun _ h => by try dsimp only; exact subC_st h)
            · try dsimp only
              exact ⟨hL.trans hJf, hp.mono hJf, NdAt.kids hvf (NdsAt.snoc (hn66.mono hJf) (NdsAt.one (hn58.mono hJf))), by omega, hR⟩
          · skip
            have q3 : ¬ (keyB [119, 104, 105, 108, 101] tt || keyB [117, 110, 116, 105, 108] tt) = true := by rw [← hwu, show wu = false from hc4]; simp
            rw [if_neg q3] at hR
            refine t_seq ?_
            refine t_region ?_
            refine l_q rfl rfl rfl (q_move rfl rfl) ?_
            refine l_q rfl rfl rfl (quiet_call rfl rfl rfl Tryz.func108 (by kernel_rfl) rfl ((fun w hw => keyF_pure b s [102, 111, 114] p lv w hs hf hp.1 (rowI_of hw) (hp.2.2.mono hw.le)))) ?_
            refine l_q rfl rfl rfl (q_assign rfl rfl) ?_
            refine l_nil ?_
            refine n_then ?_
            refine t_cond rfl (fun hc6 => ?_) (fun hc6 => ?_)
            · skip
              have q6 : keyB [102, 111, 114] tt = true := by rw [← htt]; exact hc6
              rw [if_pos q6] at hR
              refine t_region ?_
              refine l_q rfl rfl rfl (q_move rfl rfl) ?_
              refine l_q rfl rfl rfl (q_move rfl rfl) ?_
              refine l_eP rfl rfl rfl (eff_callP rfl rfl rfl Tryz.func162 (by kernel_rfl) rfl (fun w hw => hF p lv _ _ _ w _ rfl hp (picks_st1 (row b 53 (prC s lv p.next)) hw))) ?_ ?_
              · skip
                rintro _ Jx _ ⟨hJx, rfl, ax, ex, hbx, rfl⟩
                rw [hbx] at hR
                refine np_block (np_then (?_))
                exact np_body fun w hw => .inr ⟨_, rfl, Jx, _, ⟨hL.trans hJx, rfl, ax, ex, hR, rfl⟩, subC_st hw⟩
              rintro v76 J _ ⟨hJ, x76, p, lv, he76, hmu76, hp, ⟨c76, rfl, hn76⟩, rfl⟩
              have hL := hL.trans hJ
              rw [he76] at hR
              refine l_e0 rfl rfl ((by first | exact e_store_all rfl ti29 rfl rfl rfl (by first | exact chC_ones _ | exact pcC_ones _ | exact nc0_ones | exact kc_ones slb_one | exact tokC_ones _ | exact hn44.ones | exact hn76.ones | exact hn82.ones | exact hn58.ones | exact hcr.ones | simp [Value.oneCell', str, u8]) rfl | exact e_store_agg rfl ti29 rfl rfl rfl (by first | exact chC_ones _ | exact pcC_ones _ | exact nc0_ones | exact kc_ones slb_one | exact tokC_ones _ | exact hn44.ones | exact hn76.ones | exact hn82.ones | exact hn58.ones | exact hcr.ones | simp [Value.oneCell', str, u8]) rfl)) ?_
              rintro _ _ _ ⟨rfl, rfl⟩
              refine l_heap (H' := row b5 29 (ncC c76) :: _) ?_ (fun _ h => h)
              refine l_nil ?_
              refine n_block ?_
              refine n_cut ((p, lv, J, c76, x76)) ?_ (sub_nil) (sub_cons rfl (sub_cons rfl (sub_cons rfl (sub_cons rfl (sub_cons rfl sub_nil))))) (fun _ h => by try dsimp only; exact subC_st h)
              · try dsimp only
                exact ⟨hL, hp, hn76, by omega, hR⟩
            · skip
              have q6 : ¬ keyB [102, 111, 114] tt = true := by rw [← htt, show keyB [102, 111, 114] (headT s p) = false from hc6]; simp
              rw [if_neg q6] at hR
              refine t_seq ?_
              refine t_region ?_
              refine l_q rfl rfl rfl (q_move rfl rfl) ?_
              refine l_q rfl rfl rfl (quiet_call rfl rfl rfl Tryz.func108 (by kernel_rfl) rfl ((fun w hw => keyF_pure b s [99, 97, 115, 101] p lv w hs hf hp.1 (rowI_of hw) (hp.2.2.mono hw.le)))) ?_
              refine l_q rfl rfl rfl (q_assign rfl rfl) ?_
              refine l_nil ?_
              refine n_then ?_
              refine t_cond rfl (fun hc7 => ?_) (fun hc7 => ?_)
              · skip
                have q7 : keyB [99, 97, 115, 101] tt = true := by rw [← htt]; exact hc7
                rw [if_pos q7] at hR
                refine t_region ?_
                refine l_q rfl rfl rfl (q_move rfl rfl) ?_
                refine l_q rfl rfl rfl (q_move rfl rfl) ?_
                refine l_eP rfl rfl rfl (eff_callP rfl rfl rfl Tryz.func163 (by kernel_rfl) rfl (fun w hw => hC p lv _ _ _ w _ rfl hp (picks_st1 (row b 53 (prC s lv p.next)) hw))) ?_ ?_
                · skip
                  rintro _ Jx _ ⟨hJx, rfl, ax, ex, hbx, rfl⟩
                  rw [hbx] at hR
                  refine np_block (np_then (?_))
                  exact np_body fun w hw => .inr ⟨_, rfl, Jx, _, ⟨hL.trans hJx, rfl, ax, ex, hR, rfl⟩, subC_st hw⟩
                rintro v82 J _ ⟨hJ, x82, p, lv, he82, hmu82, hp, ⟨c82, rfl, hn82⟩, rfl⟩
                have hL := hL.trans hJ
                rw [he82] at hR
                refine l_e0 rfl rfl ((by first | exact e_store_all rfl ti29 rfl rfl rfl (by first | exact chC_ones _ | exact pcC_ones _ | exact nc0_ones | exact kc_ones slb_one | exact tokC_ones _ | exact hn44.ones | exact hn76.ones | exact hn82.ones | exact hn58.ones | exact hcr.ones | simp [Value.oneCell', str, u8]) rfl | exact e_store_agg rfl ti29 rfl rfl rfl (by first | exact chC_ones _ | exact pcC_ones _ | exact nc0_ones | exact kc_ones slb_one | exact tokC_ones _ | exact hn44.ones | exact hn76.ones | exact hn82.ones | exact hn58.ones | exact hcr.ones | simp [Value.oneCell', str, u8]) rfl)) ?_
                rintro _ _ _ ⟨rfl, rfl⟩
                refine l_heap (H' := row b5 29 (ncC c82) :: _) ?_ (fun _ h => h)
                refine l_nil ?_
                refine n_block ?_
                refine n_cut ((p, lv, J, c82, x82)) ?_ (sub_nil) (sub_cons rfl (sub_cons rfl (sub_cons rfl (sub_cons rfl (sub_cons rfl sub_nil))))) (fun _ h => by try dsimp only; exact subC_st h)
                · try dsimp only
                  exact ⟨hL, hp, hn82, by omega, hR⟩
              · skip
                have q7 : ¬ keyB [99, 97, 115, 101] tt = true := by rw [← htt, show keyB [99, 97, 115, 101] (headT s p) = false from hc7]; simp
                rw [if_neg q7] at hR
                rw [← htt] at hR
                refine t_region ?_
                refine l_q rfl rfl rfl (q_move rfl rfl) ?_
                refine l_eP rfl rfl rfl (eff_callP rfl rfl rfl Tryz.func35 (by kernel_rfl) rfl (fun w hw => badF_calls b s p lv hs _ _ _ w hf hp (picks_st1 (row b 53 (prC s lv p.next)) hw))) ?_ ?_
                · skip
                  rintro _ Jx _ ⟨hJx, rfl, rfl⟩
                  refine np_block (np_then (?_))
                  exact np_body fun w hw => .inr ⟨_, rfl, Jx, _, ⟨hL.trans hJx, rfl, _, _, hR, rfl⟩, subC_st hw⟩
                rintro _ _ _ ⟨⟩
  rintro ⟨p, lv, J, c, n⟩ ⟨hL, hp, hn, hmc, hR⟩
  try dsimp only at *
  refine t_seq ?_
  refine t_region ?_
  refine l_q rfl rfl rfl (q_move rfl rfl) ?_
  refine l_eP rfl rfl rfl (eff_callP rfl rfl rfl Tryz.func164 (by kernel_rfl) rfl (fun w hw => redirs_calls b s hs p lv _ _ _ w _ rfl hp (picks_st1 (row b 53 (prC s lv p.next)) hw))) ?_ ?_
  · skip
    rintro _ Jx _ ⟨hJx, rfl, ax, ex, hbx, rfl⟩
    rw [bnd_bad hbx] at hR
    refine np_then (?_)
    exact np_body fun w hw => .inr ⟨_, rfl, Jx, _, ⟨hL.trans hJx, rfl, ax, ex, hR, rfl⟩, subC_st hw⟩
  rintro v84 J _ ⟨hJ, x84, p, lv, he84, hmu84, hp, hv84, rfl⟩
  have hL := hL.trans hJ
  rw [bnd_ok he84] at hR
  have hn := hn.mono hJ
  have hcr := withR_at hn hv84
  refine l_q rfl rfl rfl (q_fieldAddr rfl Tryz.underlying29 rfl rfl ti26 rfl rfl) ?_
  refine l_e0 rfl rfl (e_storeS rfl ti26 rfl rfl (by first | exact ⟨rfl, rfl⟩ | assumption | exact hv84.one) rfl (by first | (simp only [List.set_cons_succ, List.set_cons_zero]; rfl) | rfl)) ?_
  rintro _ _ _ ⟨rfl, rfl⟩
  refine l_heap (H' := row b5 29 (ncC { c with rv := v84 }) :: _) ?_ (fun _ h => h)
  refine l_nil ?_
  refine n_then ?_
  refine t_seq ?_
  refine t_region ?_
  refine l_q rfl rfl rfl (q_load_rowA rfl Tryz.underlying29 ti29 rfl rfl rfl) ?_
  refine l_e0 rfl rfl ((by first | exact e_store_all rfl ti29 rfl rfl rfl (by first | exact chC_ones _ | exact pcC_ones _ | exact nc0_ones | exact kc_ones slb_one | exact tokC_ones _ | exact hn44.ones | exact hn76.ones | exact hn82.ones | exact hn58.ones | exact hcr.ones | simp [Value.oneCell', str, u8]) rfl | exact e_store_agg rfl ti29 rfl rfl rfl (by first | exact chC_ones _ | exact pcC_ones _ | exact nc0_ones | exact kc_ones slb_one | exact tokC_ones _ | exact hn44.ones | exact hn76.ones | exact hn82.ones | exact hn58.ones | exact hcr.ones | simp [Value.oneCell', str, u8]) rfl)) ?_
  rintro _ _ _ ⟨rfl, rfl⟩
  refine l_nil ?_
  refine n_then ?_
  refine t_ret ?_
  refine n_retGG (.inl rfl) rfl (by exact rg_row rfl Tryz.underlying29 ti29 rfl rfl (rg_nil)) (fun w' hw => ?_)
  -- leaf 0
  exact .inl ⟨_, rfl, J, _, ⟨hL, _, p, lv, hR, (by omega), hp, ⟨_, rfl, hcr⟩, rfl⟩, subC_st hw⟩
end Go.Tri
