/-
  A text quoted.
-/
import Derived.Test.YtbogmbdfjgnfaaaGreatDoorEA7
import Derived.Test.YtbogmbdfjgnfaaaGreatDoorPLex12
import Derived.Test.YtbogmbdfjgnfaaaGreatDoorPOct
import Derived.Test.YtbogmbdfjgnfaaaGreatDoorTriB21
import Derived.Test.YtbogmbdfjgnfaaaGreatDoorESh
import Derived.Shelf.Strings.SlTrimAscii
namespace Go.Tri
open Go.Proofs Go.RowKit
/-- what the package variables hold -/
def EnvI (I : Look) : Prop := ∃ m, CellI I 0 0 (.int .i64 m)
theorem EnvI.mono {I J : Look} (h : EnvI I) (k : Le I J) : EnvI J := let ⟨m, hm⟩ := h; ⟨m, hm.mono k⟩
theorem EnvI.cell {w : World} (h : EnvI (look w)) : ∃ m, w.cell? ⟨0, 0, none⟩ = some (.int .i64 m) := by
  obtain ⟨m, cur, U, fr, h1, h2⟩ := h
  refine ⟨m, ?_⟩
  unfold World.cell?
  have h1' : w.heap[0]? = some (.cells cur U fr) := h1
  simp [h1', h2]
theorem contains_pure (s sub : List UInt8) (w : World) (hs : s.length ≤ 1000000000) (hG : EnvI (look w)) : Pure Tryz.prog 150 [str s, str sub] w (.bool (Lib.contains s sub)) := by
  obtain ⟨m, hm⟩ := hG.cell
  have hsz := size_str s
  refine (Tryz.strings_Contains ⟨s.toArray⟩ ⟨sub.toArray⟩ m w (by omega) hm).mono fun e w' ⟨h1, h2⟩ => ?_
  subst h2
  exact ⟨h1, Below.refl _ _⟩
set_option maxRecDepth 10000 in
theorem letter_pure (c : UInt8) (w : World) : Pure Tryz.prog 18 [u8 c] w (.bool (letterB c)) := by
  refine enter Tryz.func18 rfl Tryz.ntmps18 rfl (St.start w (look w) (Le.refl _)) ?_
  refine t_seq ?_
  refine t_region ?_
  refine l_q rfl rfl rfl (q_assign rfl rfl) ?_
  refine l_nil ?_
  refine n_then ?_
  refine t_seq ?_
  refine t_qreg ?_
  refine s_q rfl rfl rfl (q_move rfl rfl) ?_
  refine s_q rfl rfl rfl (q_or_u8 (d := 32) rfl rfl rfl) ?_
  refine s_q rfl rfl rfl (q_leq rfl rfl rfl) ?_
  refine s_q rfl rfl rfl (q_move rfl rfl) ?_
  refine s_and2 3 3 6 10 9 _ _ rfl rfl rfl rfl rfl rfl (fun h10 => by
      try simp at h10
      refine s_g rfl rfl rfl rfl rfl rfl (q_move rfl rfl) ?_
      refine s_g rfl rfl rfl rfl rfl rfl (q_or_u8 (d := 32) rfl rfl rfl) ?_
      refine s_g rfl rfl rfl rfl rfl rfl (q_leq rfl rfl rfl) ?_
      exact s_val rfl
    ) (wanted_n rfl) rfl rfl rfl ?_
  refine s_q rfl rfl rfl (q_move rfl rfl) ?_
  refine s_and2 2 8 11 14 13 _ _ rfl rfl rfl rfl rfl rfl (fun h14 => by
      try simp at h14
      refine s_g rfl rfl rfl rfl rfl rfl (q_move rfl rfl) ?_
      refine s_g rfl rfl rfl rfl rfl rfl (q_lss rfl rfl rfl) ?_
      exact s_val rfl
    ) (wanted_n rfl) rfl rfl rfl ?_
  refine s_q rfl rfl rfl (q_move rfl rfl) ?_
  refine s_or2 2 12 15 18 17 _ _ rfl rfl rfl rfl rfl rfl (fun h18 => by
      try simp at h18
      refine s_g rfl rfl rfl rfl rfl rfl (q_move rfl rfl) ?_
      refine s_g rfl rfl rfl rfl rfl rfl (q_eql_u8c rfl rfl rfl rfl) ?_
      exact s_val rfl
    ) (wanted_n rfl) rfl rfl rfl ?_
  refine s_q rfl rfl rfl (q_assign rfl rfl) ?_
  refine s_done ?_
  refine n_then ?_
  refine t_ret ?_
  refine n_ret1 rfl rfl (fun w' hw => ?_)
  -- leaf 0
  refine ⟨?_, hw.below⟩
  rw [← letter_or c]; rfl
end Go.Tri
