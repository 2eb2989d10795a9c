/-
  Parts, and what is static.
-/
import Derived.Test.YtbogmbdfjgnfaaaGreatDoorEB7
namespace Go.Tri
open Go.Proofs Go.RowKit
set_option maxRecDepth 10000 in
theorem parts_calls (s : List UInt8) (kind : Int) (I : Look) (F : List HA) (w0 w : World) (hs : s.length ≤ 1000000000) (hG : EnvI I) (hw0 : St w0 I F w) : Calls Tryz.prog 40 [str s, .int .i64 kind].toArray w (fun e w' => ∃ v, e = .returned v ∧ ∃ I' H', (Le I I' ∧ F = H' ∧ ∃ vl, ∃ e1 : Nat, v = .tuple #[vl, .int .i64 (e1 : Int)] ∧ WRes (partsP s kind) I' vl e1) ∧ St w I' H' w') := by
  refine enter Tryz.func40 rfl Tryz.ntmps40 rfl (hw0.self) ?_
  refine t_seq ?_
  refine t_region ?_
  refine l_q rfl rfl rfl (q_assign rfl rfl) ?_
  refine l_q rfl rfl rfl (q_assign rfl rfl) ?_
  refine l_nil ?_
  refine n_then ?_
  refine t_seq ?_
  refine t_block ?_
  refine t_seq ?_
  refine t_region ?_
  refine l_q rfl rfl rfl (q_move rfl rfl) ?_
  refine l_q rfl rfl rfl (q_len_str rfl Tryz.underlying9 rfl) ?_
  refine l_q rfl rfl rfl (q_gtr rfl rfl rfl) ?_
  refine l_q rfl rfl rfl (q_assign rfl rfl) ?_
  refine l_nil ?_
  refine n_then ?_
  refine t_cond rfl (fun hc0 => ?_) (fun hc0 => ?_)
  · skip
    try simp at hc0
    have hpp : partsP s kind = .bad 50 := by rw [partsP, if_pos (by omega)]
    refine t_seq ?_
    refine t_region ?_
    refine l_q rfl rfl rfl (q_assign rfl rfl) ?_
    refine l_q rfl rfl rfl (q_assign rfl rfl) ?_
    refine l_nil ?_
    refine n_then ?_
    refine t_ret ?_
    refine n_ret_block ?_
    refine n_ret_then ?_
    refine n_ret2 rfl rfl rfl (fun w' hw => ?_)
    -- leaf 0
    exact ⟨_, rfl, I, _, ⟨Le.refl _, rfl, nilV, 50, rfl, (by rw [hpp]; exact ⟨rfl, by decide, rfl⟩)⟩, hw⟩
  · skip
    try simp at hc0
    have hs6 : ¬ 65536 < s.length := by omega
    refine t_seq ?_
    refine t_qreg ?_
    refine s_q rfl rfl rfl (q_move rfl rfl) ?_
    refine s_q rfl rfl rfl (q_lss rfl rfl rfl) ?_
    refine s_q rfl rfl rfl (q_move rfl rfl) ?_
    refine s_or2 2 2 13 16 15 _ _ rfl rfl rfl rfl rfl rfl (fun h16 => by
        try simp at h16
        refine s_g rfl rfl rfl rfl rfl rfl (q_move rfl rfl) ?_
        refine s_g rfl rfl rfl rfl rfl rfl (q_gtr rfl rfl rfl) ?_
        exact s_val rfl
      ) (wanted_n rfl) rfl rfl rfl ?_
    refine s_q rfl rfl rfl (q_assign rfl rfl) ?_
    refine s_done ?_
    refine n_then ?_
    refine t_cond rfl (fun hc1 => ?_) (fun hc1 => ?_)
    · skip
      have h1 : kind < 0 ∨ 2 < kind := by simpa using hc1
      have hpp : partsP s kind = .bad 73 := by rw [partsP, if_neg hs6, if_pos h1]
      refine t_seq ?_
      refine t_region ?_
      refine l_q rfl rfl rfl (q_assign rfl rfl) ?_
      refine l_q rfl rfl rfl (q_assign rfl rfl) ?_
      refine l_nil ?_
      refine n_then ?_
      refine t_ret ?_
      refine n_ret_block ?_
      refine n_ret_then ?_
      refine n_ret2 rfl rfl rfl (fun w' hw => ?_)
      -- leaf 1
      exact ⟨_, rfl, I, _, ⟨Le.refl _, rfl, nilV, 73, rfl, (by rw [hpp]; exact ⟨rfl, by decide, rfl⟩)⟩, hw⟩
    · skip
      have h1 : ¬ (kind < 0 ∨ 2 < kind) := by
        have h := hc1
        rw [Bool.or_eq_false_iff, decide_eq_false_iff_not, decide_eq_false_iff_not] at h
        exact fun h2 => h2.elim h.1 h.2
      obtain ⟨kind, rfl⟩ : ∃ k : Nat, kind = (k : Int) := ⟨kind.toNat, by omega⟩
      have hk2 : kind ≤ 2 := by omega
      have hpp : partsP s (kind : Int) = wP 24 kind s := by rw [partsP, if_neg hs6, if_neg h1]; rfl
      refine t_skip ?_
      refine n_block ?_
      refine n_then ?_
      refine t_seq ?_
      refine t_region ?_
      refine l_q rfl rfl rfl (q_move rfl rfl) ?_
      refine l_q rfl rfl rfl (q_move rfl rfl) ?_
      refine l_e rfl rfl rfl (eff_call rfl rfl rfl Tryz.func67 (by kernel_rfl) rfl (fun w hw => within_ok 24 s kind 0 _ _ _ w rfl (by omega) hk2 (by omega) hG hw)) ?_
      rintro _ J19 _ ⟨hJ19, rfl, vl, e1, rfl, hres⟩
      refine l_q rfl rfl rfl (q_extract rfl rfl rfl) ?_
      refine l_q rfl rfl rfl (q_extract rfl rfl rfl) ?_
      refine l_q rfl rfl rfl (q_assign rfl rfl) ?_
      refine l_q rfl rfl rfl (q_assign rfl rfl) ?_
      refine l_nil ?_
      refine n_then ?_
      refine t_ret ?_
      refine n_ret2 rfl rfl rfl (fun w' hw => ?_)
      -- leaf 2
      exact ⟨_, rfl, J19, _, ⟨hJ19, rfl, vl, e1, rfl, (by rw [hpp]; exact hres)⟩, hw⟩
end Go.Tri
