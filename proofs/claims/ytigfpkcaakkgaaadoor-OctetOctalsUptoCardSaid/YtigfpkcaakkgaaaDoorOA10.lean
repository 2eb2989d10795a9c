/-
  The last bit of eight.
-/
import Derived.Test.YtigfpkcaakkgaaaDoorOA6
import Derived.Test.YtigfpkcaakkgaaaDoorPNum8
import Derived.Test.YtigfpkcaakkgaaaDoorTriB21
namespace Go.Tri
open Go.Proofs Go.RowKit
set_option maxRecDepth 100000
/-- what the package variables hold, with the table of last bits -/
structure GO (w : World) : Prop where
  gw : GW w
  deb : CellI (look w) 7 7 (.int .u8 3)
theorem GO.le {w w' : World} (h : GO w) (k : Le (look w) (look w')) : GO w' := ⟨h.gw.le k, h.deb.mono k⟩
theorem dig8 {u : Nat} (h : u < 8) : nth [48, 49, 50, 51, 52, 53, 54, 55, 56, 57, 97, 98, 99, 100, 101, 102, 103, 104, 105, 106, 107, 108, 109, 110, 111, 112, 113, 114, 115, 116, 117, 118, 119, 120, 121, 122] u 0 = UInt8.ofNat (48 + u) := by
  match u, h with
  | 0, _ => rfl
  | 1, _ => rfl
  | 2, _ => rfl
  | 3, _ => rfl
  | 4, _ => rfl
  | 5, _ => rfl
  | 6, _ => rfl
  | 7, _ => rfl
/-- the digits written so far, at the end of the array -/
def Dg (cs : List Value) (i : Nat) (ds : List UInt8) : Prop := cs.length = 65 ∧ i + ds.length = 65 ∧ ∀ j, j < ds.length → cs[i + j]? = some (u8 (nth ds j 0))
theorem Dg.put {cs : List Value} {i : Nat} {ds : List UInt8} (h : Dg cs i ds) (hi : 1 ≤ i) (c : UInt8) : Dg (cs.set (i - 1) (u8 c)) (i - 1) (c :: ds) := by
  obtain ⟨h1, h2, h3⟩ := h
  refine ⟨by rw [List.length_set]; exact h1, by rw [List.length_cons]; omega, fun j hj => ?_⟩
  cases j with
  | zero => rw [Nat.add_zero, List.getElem?_set_self (by omega)]; rfl
  | succ j =>
    rw [List.length_cons] at hj
    rw [List.getElem?_set_ne (by omega), show i - 1 + (j + 1) = i + j by omega, h3 j (by omega)]; rfl
theorem octL_big {n : Nat} (h : n < 9223372036854775808) : (octL n).length ≤ 22 := octL_len 21 n (by omega)
set_option maxRecDepth 10000 in
theorem pow2_pure (w : World) : Pure Tryd.prog 77 [.int .i64 8] w (.bool true) := by
  refine enter Tryd.func77 rfl Tryd.ntmps77 rfl (St.start w (look w) (Le.refl _)) ?_
  refine t_seq ?_
  refine t_region ?_
  refine l_q rfl rfl rfl (q_assign rfl rfl) ?_
  refine l_nil ?_
  refine n_then ?_
  refine t_seq ?_
  refine t_region ?_
  refine l_q rfl rfl rfl (q_move rfl rfl) ?_
  refine l_q rfl rfl rfl (q_move rfl rfl) ?_
  refine l_q rfl rfl rfl (q_sub64 rfl rfl rfl (by omega)) ?_
  refine l_q rfl rfl rfl (q_andI8 rfl rfl rfl) ?_
  refine l_q rfl rfl rfl (q_eql rfl rfl rfl) ?_
  refine l_q rfl rfl rfl (q_assign rfl rfl) ?_
  refine l_nil ?_
  refine n_then ?_
  refine t_ret ?_
  refine n_ret1 rfl rfl (fun w' hw => ?_)
  -- leaf 0
  exact ⟨rfl, hw.below⟩
set_option maxRecDepth 10000 in
theorem tz64_pure (w : World) (hG : GO w) : Pure Tryd.prog 92 [.int .u64 8] w (.int .i64 3) := by
  refine enter Tryd.func92 rfl Tryd.ntmps92 rfl (St.start w (look w) (Le.refl _)) ?_
  refine t_seq ?_
  refine t_region ?_
  refine l_q rfl rfl rfl (q_assign rfl rfl) ?_
  refine l_nil ?_
  refine n_then ?_
  refine t_seq ?_
  refine t_seq ?_
  refine t_region ?_
  refine l_q rfl rfl rfl (q_move rfl rfl) ?_
  refine l_q rfl rfl rfl (q_eql rfl rfl rfl) ?_
  refine l_nil ?_
  refine n_then ?_
  refine t_cond rfl (fun hc0 => ?_) (fun hc0 => ?_)
  · skip
    try simp at hc0
  · skip
    try simp at hc0
    refine t_skip ?_
    refine n_then ?_
    refine t_seq ?_
    refine t_region ?_
    refine l_q rfl rfl rfl (q_move rfl rfl) ?_
    refine l_q rfl rfl rfl (q_move rfl rfl) ?_
    refine l_q rfl rfl rfl (q_negU8 rfl rfl) ?_
    refine l_q rfl rfl rfl (q_andU 8 18446744073709551608 8 rfl rfl rfl (by decide) (by decide) (by decide)) ?_
    refine l_q rfl rfl rfl (q_mulU 8 285870213051353865 rfl rfl rfl (by decide)) ?_
    refine l_q rfl rfl rfl (q_shrU (8 * 285870213051353865) 58 rfl rfl rfl (by decide)) ?_
    refine l_q rfl rfl rfl (q_indexAddr_arr rfl Tryd.underlying116 ti5 rfl rfl (by omega)) ?_
    refine l_q rfl rfl rfl ((by first | exact q_load_row rfl Tryd.underlying5 rfl rfl (by rfl) | exact q_load rfl Tryd.underlying5 rfl rfl (rd_imm hG.deb))) ?_
    refine l_q rfl rfl rfl (q_convI 3 rfl Tryd.underlying5 Tryd.underlying3 rfl rfl (by decide)) ?_
    refine l_q rfl rfl rfl (q_assign rfl rfl) ?_
    refine l_nil ?_
    refine n_then ?_
    refine t_ret ?_
    refine n_ret1 rfl rfl (fun w' hw => ?_)
    -- leaf 0
    exact ⟨rfl, hw.below⟩
set_option maxRecDepth 10000 in
theorem tz_pure (w : World) (hG : GO w) : Pure Tryd.prog 78 [.int .u64 8] w (.int .i64 3) := by
  refine enter Tryd.func78 rfl Tryd.ntmps78 rfl (St.start w (look w) (Le.refl _)) ?_
  refine t_seq ?_
  refine t_region ?_
  refine l_q rfl rfl rfl (q_assign rfl rfl) ?_
  refine l_nil ?_
  refine n_then ?_
  refine t_seq ?_
  refine t_cond rfl (fun hc0 => ?_) (fun hc0 => ?_)
  · skip
    cases hc0
  · skip
    refine t_skip ?_
    refine n_then ?_
    refine t_seq ?_
    refine t_region ?_
    refine l_q rfl rfl rfl (q_move rfl rfl) ?_
    refine l_q rfl rfl rfl (quiet_call rfl rfl rfl Tryd.func92 (by kernel_rfl) rfl ((fun w hw => tz64_pure w (hG.le hw.le)))) ?_
    refine l_q rfl rfl rfl (q_assign rfl rfl) ?_
    refine l_nil ?_
    refine n_then ?_
    refine t_ret ?_
    refine n_ret1 rfl rfl (fun w' hw => ?_)
    -- leaf 0
    exact ⟨rfl, hw.below⟩
end Go.Tri
