/-
  A reader of words: its small steps.
-/
import Derived.Test.YtbogmbdfjgnfaaaGreatDoorEA4
import Derived.Test.YtbogmbdfjgnfaaaGreatDoorPWord5
namespace Go.Tri
open Go.Proofs Go.RowKit
/-- a reader's cells -/
def rdC (s : List UInt8) (kd dp : Nat) (v : Value) : List Value := [str s, .int .i64 (kd : Int), .int .i64 (dp : Int), v]
def topP (v : Value) (n : Nat) : Option Addr := if n = 0 then none else some ⟨(adr v).block, (adr v).off + (n - 1) * 5, none⟩
def ShapeV (v : Value) (n : Nat) : Prop := ∃ A c, v = .slice A n c ∧ (0 < n → ∀ a, A = some a → a.spot = none) ∧ (0 < n → A ≠ none)
set_option maxRecDepth 10000 in
theorem top_pure (b : Nat) (s : List UInt8) (kd dp : Nat) (v : Value) (n : Nat) (w : World) (hn : n ≤ 1000000000) (hb : Rowed w b (rdC s kd dp v)) (hv : ShapeV v n) : Pure Tryz.prog 136 [.pointer (some ⟨b, 3, none⟩)] w (.pointer (topP v n)) := by
  refine enter Tryz.func136 rfl Tryz.ntmps136 rfl (St.start w (look w) (Le.refl _)) ?_
  refine t_seq ?_
  refine t_region ?_
  refine l_q rfl rfl rfl (q_assign rfl rfl) ?_
  refine l_nil ?_
  refine n_then ?_
  refine t_seq ?_
  refine t_seq ?_
  refine t_region ?_
  refine l_q rfl rfl rfl (q_move rfl rfl) ?_
  refine l_q rfl rfl rfl (q_nilCheck rfl rfl) ?_
  refine l_q rfl rfl rfl ((by first | exact q_load_row rfl Tryz.underlying167 rfl rfl (by rfl) | exact q_load rfl Tryz.underlying167 rfl rfl (rd_imm (hb 3 _ rfl)))) ?_
  refine l_q rfl rfl rfl ((by first | exact q_lenV rfl Tryz.underlying167 rfl | exact q_len rfl Tryz.underlying167 rfl (len_of hv))) ?_
  refine l_q rfl rfl rfl (q_eql rfl rfl rfl) ?_
  refine l_nil ?_
  refine n_then ?_
  refine t_cond rfl (fun hc0 => ?_) (fun hc0 => ?_)
  · skip
    try simp at hc0
    have hn0 : n = 0 := by omega
    refine t_seq ?_
    refine t_region ?_
    refine l_q rfl rfl rfl (q_assign rfl rfl) ?_
    refine l_nil ?_
    refine n_then ?_
    refine t_ret ?_
    refine n_ret_then ?_
    refine n_ret1 rfl rfl (fun w' hw => ?_)
    -- leaf 0
    refine ⟨?_, hw.below⟩
    rw [topP, if_pos hn0]
  · skip
    try simp at hc0
    have hn0 : ¬ n = 0 := by omega
    refine t_skip ?_
    refine n_then ?_
    refine t_seq ?_
    refine t_qdraw mo (by kernel_rfl) (fun _ _ _ _ _ h => h) ?_
    refine s_q rfl rfl rfl (q_move rfl rfl) ?_
    refine s_q rfl rfl rfl (q_nilCheck rfl rfl) ?_
    refine s_q rfl rfl rfl ((by first | exact q_load_row rfl Tryz.underlying167 rfl rfl (by rfl) | exact q_load rfl Tryz.underlying167 rfl rfl (rd_imm (hb 3 _ rfl)))) ?_
    refine s_q rfl rfl rfl (q_move rfl rfl) ?_
    refine s_q rfl rfl rfl (q_nilCheck rfl rfl) ?_
    refine s_q rfl rfl rfl ((by first | exact q_load_row rfl Tryz.underlying167 rfl rfl (by rfl) | exact q_load rfl Tryz.underlying167 rfl rfl (rd_imm (hb 3 _ rfl)))) ?_
    refine s_q rfl rfl rfl ((by first | exact q_lenV rfl Tryz.underlying167 rfl | exact q_len rfl Tryz.underlying167 rfl (len_of hv))) ?_
    refine s_q rfl rfl rfl (q_sub64 rfl rfl rfl (by omega)) ?_
    refine s_q rfl rfl rfl ((by first | exact q_indexAddrVN rfl Tryz.underlying167 ti148 rfl rfl (by omega) | exact q_indexAddrN rfl Tryz.underlying167 ti148 rfl rfl (hv) (by omega) | exact q_indexAddrV rfl Tryz.underlying167 ti148 rfl rfl (by omega) | exact q_indexAddr rfl Tryz.underlying167 ti148 rfl rfl (hv) (by omega))) ?_
    refine s_q rfl rfl rfl (q_assign rfl rfl) ?_
    refine s_done ?_
    refine n_then ?_
    refine t_ret ?_
    refine n_ret1 rfl rfl (fun w' hw => ?_)
    -- leaf 1
    refine ⟨?_, hw.below⟩
    rw [topP, if_neg hn0, show ((n : Int) - 1).toNat = n - 1 by omega]
theorem top_nil (b : Nat) (s : List UInt8) (kd dp : Nat) (v : Value) (w : World) (hb : Rowed w b (rdC s kd dp v)) (hv : ShapeV v 0) : Pure Tryz.prog 136 [.pointer (some ⟨b, 3, none⟩)] w (.pointer none) := top_pure b s kd dp v 0 w (by omega) hb hv
theorem top_some (b : Nat) (s : List UInt8) (kd dp : Nat) (v : Value) (n : Nat) (w : World) (hn : n ≤ 1000000000) (h0 : 0 < n) (hb : Rowed w b (rdC s kd dp v)) (hv : ShapeV v n) : Pure Tryz.prog 136 [.pointer (some ⟨b, 3, none⟩)] w (.pointer (some ⟨(adr v).block, (adr v).off + (n - 1) * 5, none⟩)) := by
  have h := top_pure b s kd dp v n w hn hb hv
  rw [topP, if_neg (by omega)] at h
  exact h
set_option maxRecDepth 10000 in
theorem quoted_pure (b : Nat) (s : List UInt8) (kd dp : Nat) (v : Value) (w : World) (hb : Rowed w b (rdC s kd dp v)) : Pure Tryz.prog 114 [.pointer (some ⟨b, 0, none⟩)] w (.bool (decide (kd ≠ 0))) := by
  refine enter Tryz.func114 rfl Tryz.ntmps114 rfl (St.start w (look w) (Le.refl _)) ?_
  refine t_seq ?_
  refine t_region ?_
  refine l_q rfl rfl rfl (q_assign rfl rfl) ?_
  refine l_nil ?_
  refine n_then ?_
  refine t_seq ?_
  refine t_region ?_
  refine l_q rfl rfl rfl (q_move rfl rfl) ?_
  refine l_q rfl rfl rfl (q_nilCheck rfl rfl) ?_
  refine l_q rfl rfl rfl (q_fieldAddr rfl Tryz.underlying169 rfl rfl ti3 rfl rfl) ?_
  refine l_q rfl rfl rfl ((by first | exact q_load_row rfl Tryz.underlying3 rfl rfl (by rfl) | exact q_load rfl Tryz.underlying3 rfl rfl (rd_imm (hb 1 _ rfl)))) ?_
  refine l_q rfl rfl rfl (q_neq rfl rfl rfl) ?_
  refine l_q rfl rfl rfl (q_assign rfl rfl) ?_
  refine l_nil ?_
  refine n_then ?_
  refine t_ret ?_
  refine n_ret1 rfl rfl (fun w' hw => ?_)
  -- leaf 0
  refine ⟨?_, hw.below⟩
  by_cases h : kd = 0
  · subst h; rfl
  · rw [decide_eq_true h, decide_eq_true (by omega)]
end Go.Tri
